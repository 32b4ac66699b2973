/- Part 2 of the proof. -/
import Derived.Test.YtljklmlodfbdnaaGreatJ1
import Derived.LoopN
import Derived.MapKept
import Derived.WalkKit
import Derived.ProofKit
import Derived.OpenShut
import Derived.SizedLaws
import Derived.Test.YtljklmlodfbdnaaGreatRows
import Derived.Shelf.SlIterI.Nil
import Derived.Shelf.SortM.Plain
import Derived.Shelf.SortM.SortNone
import Derived.Scope
set_option maxHeartbeats 1000000
set_option maxRecDepth 100000
set_option linter.unusedVariables false
set_option linter.unusedSimpArgs false
set_option linter.unusedSectionVars false
set_option linter.unnecessarySimpa false
namespace Go.E
open Go
def eG {α:Type} (s:Nat) (c:α->Nat->Value) (l:List α):Nat->Value:=fun i=>(l[i / s]?).elim undef (fun a=>c a (i % s))
def ic (x:Int):Nat->Value:=fun _=>.int .i64 x
theorem Agr {α:Type} {s j k:Nat} {c:α->Nat->Value} {l:List α} (hj:j<l.length) (hk:k<s):eG s c l (j*s+k)=c l[j] k:=by
 have h1:(j*s+k) / s=j:=by rw[Nat.mul_comm,Nat.mul_add_div Aa,Nat.div_eq_of_lt hk,Nat.add_zero]
 have h2:(j*s+k) % s=k:=by rw[Nat.mul_comm,Nat.mul_add_mod,Nat.mod_eq_of_lt hk]
 simp only[eG,h1,h2,List.getElem?_eq_getElem hj,Option.elim_some]
theorem O0 {α:Type} {j:Nat} {c:α->Nat->Value} {l:List α} (hj:j<l.length):eG 1 c l j=c l[j] 0:=by
 have:=Agr (c:=c) (s:=1) (k:=0) hj Aa
 simpa using this
theorem Aez {α:Type} {s:Nat} (hs:0<s) (c:α->Nat->Value) (l l':List α):∀ i,i<(l.length+l'.length)*s->app (eG s c l) (l.length*s) (eG s c l') i=eG s c (l++l') i:=by
 intro i _
 simp only[app,eG]
 by_cases h:i<l.length*s
 .rw[Ae h,List.getElem?_append_left (by rw[Nat.div_lt_iff_lt_mul hs];exact h)]
 .rw[Af h]
  have hle:l.length*s<=i:=Nat.le_of_not_lt h
  have h1:(i-l.length*s) / s=i / s-l.length:=by
   rw[Nat.mul_comm,Nat.sub_mul_div]
  have h2:(i-l.length*s) % s=i % s:=by
   rw[Nat.mul_comm,Nat.sub_mul_mod];rw[Nat.mul_comm];exact hle
  rw[h1,h2,List.getElem?_append_right (by rw[Nat.le_div_iff_mul_le hs];exact hle)]
def OL {α:Type} (w0:World) (T:TypeId) (s:Nat) (c:α->Nat->Value) (B:GH) (v:Value) (l:List α):Prop:=Own w0 T s B v l.length (eG s c l)
def SL {α:Type} (w:World) (s:Nat) (c:α->Nat->Value) (v:Value) (l:List α):Prop:=Sl w s v l.length (eG s c l)
section
variable {α:Type} {w0 w:World} {T:TypeId} {s:Nat} {c:α->Nat->Value} {B H A C:GH} {v:Value} {l:List α}
theorem OL.nil:OL w0 T s c [] (.slice none 0 0) ([]:List α):=Own.nil _
theorem SL.nil:SL w s c (.slice none 0 0) ([]:List α):=Sl.nil _
theorem OL.fresh (h:OL w0 T s c B v l):∀ b,b∈keys B->w0.heap.size<=b:=Own.fresh h
theorem OL.val (h:OL w0 T s c B v l):∃ p cap,v=.slice p l.length cap:=(Own.val h).imp fun _ h=>h.imp fun _ h=>h.1
theorem SL.keep (h:SL w0 s c v l) (hs:St w0 H w) (hn:∀ b,b∈keys H->w0.heap.size<=b):SL w s c v l:=Sl.keep h hs hn
theorem SL.val (h:SL w s c v l):∃ p cap,v=.slice p l.length cap:=let ⟨p,cap,h,_⟩:=h;⟨p,cap,h⟩
theorem OL.base {w1:World} (h:OL w1 T s c B v l) (hw:w0.heap.size<=w1.heap.size):OL w0 T s c B v l:=by
 rcases h with h | ⟨b,o,cp,N,F,h1,h2,h3⟩
 .exact .inl h
 .exact .inr ⟨b,o,cp,N,F,h1,Nat.le_trans hw h2,h3⟩
theorem OL.new {b n:Nat} {F:Nat->Value} (hb:w0.heap.size<=b) (hl:n=l.length) (hm:Nat.ble n 4611686018427387904=true) (hF:∀ i,i<n*s->F i=eG s c l i):OL w0 T s c [(b,BK (n*s) F T)] (.slice (some ⟨b,0,none⟩) n n) l:=by
 subst hl
 exact Own.mk hb (Nat.le_refl _) Aa (by have:=Nat.le_of_ble_eq_true hm;unfold maxLen;omega) (fun i hi=>by rw[Nat.zero_add];exact hF i hi)
theorem SL.lit {w':World} {b n N:Nat} {F:Nat->Value} (hs:St w0 H w') (hm:(b,BK N F T)∈H) (hl:n=l.length) (hN:n*s<=N) (hmx:n<=maxLen) (hF:∀ i,i<n*s->F i=eG s c l i):SL w' s c (.slice (some ⟨b,0,none⟩) n n) l:=by
 subst hl
 exact⟨_,_,rfl,Nat.le_refl _,hmx,(fun h=>by cases h),SrcAt.own hs hm Aa fun i hi=>by rw[Nat.zero_add];exact hF i hi⟩
theorem SL.sub {w':World} {b o n cap N:Nat} {F:Nat->Value} (hs:St w0 H w') (hm:(b,BK N F T)∈H) (hl:n=l.length) (hcap:n<=cap) (hmx:cap<=maxLen) (hN:o+n*s<=N) (hF:∀ i,i<n*s->F (o+i)=eG s c l i):SL w' s c (.slice (some ⟨b,o,none⟩) n cap) l:=by
 subst hl
 exact⟨_,_,rfl,hcap,hmx,(fun h=>by cases h),SrcAt.own hs hm hN hF⟩
@[simp] theorem keys_append (A B:GH):keys (A++B)=keys A++keys B:=List.map_append
theorem St.perm {H':GH} (h:St w0 H w) (hp:H.Perm H'):St w0 H' w:=
 ⟨h.os,h.tape,h.out,h.size,fun b o hm=>h.own b o (hp.mem_iff.2 hm),(hp.map _).nodup_iff.1 h.nd,fun k hk hkn=>h.keep k hk fun hh=>hkn ((hp.map (·.1)).mem_iff.1 hh)⟩
theorem Mg.news {w1:World} {F H':GH} (hB:∀ k,k∈keys B->w1.heap.size<=k) (h:Mg w0 w1 H F H'):Mg w0 w1 H (B++F) (B++H'):=by
 induction B with
 | nil=>exact h
 | cons x B ih=>
  obtain⟨b,o⟩:=x
  exact .new (hB b Ad) (ih fun k hk=>hB k (by simp[hk]))
theorem Upd.seg {b:Nat} {o:Obj} {H':GH} (h:Upd H b o H'):Upd (A++H) b o (A++H'):=by
 induction A with
 | nil=>exact h
 | cons x A ih=>exact .there x _ _ b o ih
theorem Swp.seg {b:Nat} {x:Nat×Obj} {H':GH} (h:Swp H b x H'):Swp (A++H) b x (A++H'):=by
 induction A with
 | nil=>exact h
 | cons y A ih=>exact .there y _ _ b x ih
theorem aI {F:GH} (hB:∀ b,b∈keys B->w0.heap.size<=b) (h:Kp w0 H F):Kp w0 (B++H) F:=by
 induction B with
 | nil=>exact h
 | cons x B ih=>
  obtain⟨b,o⟩:=x
  exact .new (hB b Ad) (ih fun k hk=>hB k (by simp[hk]))
theorem aK {F:GH} (h:Kp w0 H F):Kp w0 (B++H) (B++F):=by
 induction B with
 | nil=>exact h
 | cons x B ih=>exact .keep ih
end
section
variable {α:Type} {P:Program} {w0:World} {env:HH} {H:GH}
variable {d:Option Nat} {ty:TypeId} {pos:String} {af:Array Edge} {g:Option (Nat×Bool)} {t:TypeId} {s:Nat} {c:α->Nat->Value}
end
end Go.E
namespace Go.E
open Go
inductive Wh {σ ρ:Type} (f:σ->σ ⊕ ρ->Prop):σ->ρ->Prop
 | out {s:σ} {r:ρ} (h:f s (.inr r)):Wh f s r
 | again {s s':σ} {r:ρ} (h:f s (.inl s')) (k:Wh f s' r):Wh f s r
theorem aH {σ ρ:Type} {f:σ->σ ⊕ ρ->Prop} (st:Nat->σ) (n:Nat) {r:ρ} (h:∀ k,k<n->f (st k) (.inl (st (k+1)))) (hn:f (st n) (.inr r)):Wh f (st 0) r:=by
 have key:∀ j k,k+j=n->Wh f (st k) r:=by
  intro j
  induction j with
  | zero=>intro k hk;obtain rfl:k=n:=(by omega);exact .out hn
  | succ j ih=>intro k hk;exact .again (h k (by omega)) (ih (k+1) (by omega))
 exact key n 0 Aa
theorem aL {σ ρ:Type} {f:σ->σ ⊕ ρ->Prop} (I:σ->Prop) (m:σ->Nat) (R:ρ->Prop) {s:σ} (h0:I s) (h:∀ s,I s->(∃ s',f s (.inl s')/\I s'/\m s'<m s)∨∃ r,f s (.inr r)/\R r):∃ r,Wh f s r/\R r:=by
 have key:∀ k s,m s=k->I s->∃ r,Wh f s r/\R r:=by
  intro k
  induction k using Nat.strongRecOn with
  | _ k ih=>
   intro s hk hi
   rcases h s hi with ⟨s',h1,h2,h3⟩ | ⟨r,h1,h2⟩
   .obtain⟨r,h4,h5⟩:=ih (m s') Aa s' rfl h2
    exact⟨r,.again h1 h4,h5⟩
   .exact⟨r,.out h1,h2⟩
 exact key _ s rfl h0
def RQ {σ ρ:Type} (n:Nat) (w0:World) (I:σ->HH->GH->Prop) (O:ρ->Exit->HH->GH->Prop) (o:σ ⊕ ρ):Exit->Act->World->Prop:=
 fun ex a w=>∃ e' H',Ag n e' a/\St w0 H' w/\((∃ s',o=.inl s'/\ex=.normal/\I s' e' H')∨∃ r,o=.inr r/\ex≠.normal/\O r ex e' H')
section
variable {P:Program} {n:Nat} {w0:World} {env:HH} {H:GH} {Q:Exit->Act->World->Prop} {ops:Array Oper} {rest:List Oper}
theorem AhH {σ ρ:Type} {f:σ->σ ⊕ ρ->Prop} {c:Code} (I:σ->HH->GH->Prop) (O:ρ->Exit->HH->GH->Prop) {s0:σ} {x:ρ} (hw:Wh f s0 x) (h0:∃ e1 H1,Live env e1/\(∀ w,St w0 H w->St w0 H1 w)/\I s0 e1 H1) (round:∀ s o e H,I s e H->f s o->XW P n w0 e H c (RQ n w0 I O o)) (out:∀ ex e' H',O x ex e' H'->XQ n w0 e' H' ex Q):XW P n w0 env H (.loop c) Q:=by
 intro a w ha hs
 obtain⟨e1,H1,hl,hst,hi⟩:=h0
 intro b k cs
 have key:∀ s,Wh f s x->∀ e H a w,I s e H->Ag n e a->St w0 H w->∃ ex a' w',Q ex a' w'/\Arrives P (lone (b.at a (.code c::.inLoop c::k)) cs w) b k cs ex a' w':=by
  intro s hw
  induction hw with
  | @out s r h=>
   intro e H a w hI ha hs
   obtain⟨ex,a₁,w₁,hq,harr⟩:=round s _ e H hI h a w ha hs b (.inLoop c::k) cs
   obtain⟨e',H',ha',hs',hq | hq⟩:=hq
   .obtain⟨s',h1,_⟩:=hq;cases h1
   .obtain⟨r',h1,hne,hO⟩:=hq
    cases h1
    have hQ:=out ex e' H' hO a₁ w₁ ha' hs'
    cases ex with
    | normal=>exact absurd rfl hne
    | exit id=>exact⟨_,a₁,w₁,hQ,.pass (x:=.inLoop c) rfl (fun _ _=>.inl (by simp)) harr⟩
    | goto l=>exact⟨_,a₁,w₁,hQ,.pass (x:=.inLoop c) rfl (fun _ _=>.inl (by simp)) harr⟩
    | ret=>exact⟨_,a₁,w₁,hQ,.pass (x:=.inLoop c) rfl (fun _ _=>.inl (by simp)) harr⟩
    | panic ch=>exact⟨_,a₁,w₁,hQ,.pass (x:=.inLoop c) rfl (fun _ _=>.inl (by simp)) harr⟩
    | outgrown=>exact⟨_,a₁,w₁,hQ,.pass (x:=.inLoop c) rfl (fun _ _=>.inl (by simp)) harr⟩
  | @again s s' r h _ ih=>
   intro e H a w hI ha hs
   obtain⟨ex,a₁,w₁,hq,harr⟩:=round s _ e H hI h a w ha hs b (.inLoop c::k) cs
   obtain⟨e',H',ha',hs',hq | hq⟩:=hq
   .obtain⟨s'',h1,hex,hI'⟩:=hq
    cases h1
    subst hex
    obtain⟨ex₂,a₂,w₂,hq₂,harr₂⟩:=ih (by assumption) out e' H' a₁ w₁ hI' ha' hs'
    exact⟨ex₂,a₂,w₂,hq₂,.of_steps (Steps.trans harr (.one step_inLoop)) harr₂⟩
   .obtain⟨r',h1,_⟩:=hq;cases h1
 obtain⟨ex,a',w',hq,harr⟩:=key s0 hw e1 H1 a w hi (ha.live hl) (hst w hs)
 exact⟨ex,a',w',hq,.of_steps (.one step_loop) harr⟩
theorem Ae0 {σ ρ:Type} {I:σ->HH->GH->Prop} {O:ρ->Exit->HH->GH->Prop} {o:σ ⊕ ρ} {s':σ} {e':HH} (H':GH) (hl:Live env e') (hst:∀ w,St w0 H w->St w0 H' w) (ho:o=.inl s') (hI:I s' e' H') :
  XQ n w0 env H .normal (RQ n w0 I O o):=fun a w ha hs=>⟨e',H',ha.live hl,hst w hs,.inl ⟨s',ho,rfl,hI⟩⟩
theorem Agz {σ ρ:Type} {I:σ->HH->GH->Prop} {O:ρ->Exit->HH->GH->Prop} {o:σ ⊕ ρ} {r:ρ} {ex:Exit} {e':HH} (H':GH) (hl:Live env e') (hst:∀ w,St w0 H w->St w0 H' w) (ho:o=.inr r) (hne:ex≠.normal) (hO:O r ex e' H') :
  XQ n w0 env H ex (RQ n w0 I O o):=fun a w ha hs=>⟨e',H',ha.live hl,hst w hs,.inr ⟨r,ho,hne,hO⟩⟩
end
def Cov (w0:World) (B B':GH):Prop:=(∀ k,k∈keys B'->k∈keys B∨w0.heap.size<=k)/\∀ k,k∈keys B->k∈keys B'
theorem Cov.refl {w0:World} (B:GH):Cov w0 B B:=⟨fun _ h=>.inl h,fun _ h=>h⟩
theorem Cov.trans {w0:World} {A B C:GH} (h:Cov w0 A B) (k:Cov w0 B C):Cov w0 A C:=
 ⟨fun x hx=>(k.1 x hx).elim (fun h'=>h.1 x h') .inr,fun x hx=>k.2 x (h.2 x hx)⟩
theorem Cov.fresh {w0:World} {B:GH} (h:Cov w0 [] B):∀ k,k∈keys B->w0.heap.size<=k:=fun k hk=>(h.1 k hk).elim (fun h=>by simp at h) id
theorem aO {w0:World} {B:GH} (h:∀ k,k∈keys B->w0.heap.size<=k):Cov w0 [] B:=⟨fun k hk=>.inr (h k hk),fun _ h=>by simp at h⟩
theorem Cov.base {w0 w1:World} {A B:GH} (h:Cov w1 A B) (hw:w0.heap.size<=w1.heap.size):Cov w0 A B:=⟨fun k hk=>(h.1 k hk).imp id fun h=>Nat.le_trans hw h,h.2⟩
theorem Cov.cons {w0:World} {b:Nat} {o o':Obj} {A B:GH} (h:Cov w0 A B):Cov w0 ((b,o)::A) ((b,o')::B):=
 ⟨fun k hk=>by
  simp only[keys_cons,List.mem_cons] at hk ⊢
  rcases hk with hk | hk
  .exact .inl (.inl hk)
  .exact(h.1 k hk).imp .inr id,fun k hk=>by
  simp only[keys_cons,List.mem_cons] at hk ⊢
  exact hk.imp id (h.2 k)⟩
theorem Cov.app {w0:World} {A A' B B':GH} (h:Cov w0 A A') (k:Cov w0 B B'):Cov w0 (A++B) (A'++B'):=
 ⟨fun x hx=>by
  simp only[keys_append,List.mem_append] at hx ⊢
  rcases hx with hx | hx
  .exact(h.1 x hx).imp .inl id
  .exact(k.1 x hx).imp .inr id,fun x hx=>by
  simp only[keys_append,List.mem_append] at hx ⊢
  exact hx.imp (h.2 x) (k.2 x)⟩
theorem Cov.new {w0:World} {b:Nat} {o:Obj} {B:GH} (hb:w0.heap.size<=b):Cov w0 B ((b,o)::B):=
 ⟨fun k hk=>by
  simp only[keys_cons,List.mem_cons] at hk
  rcases hk with hk | hk
  .exact .inr (hk▸hb)
  .exact .inl hk,fun k hk=>by simp only[keys_cons,List.mem_cons];exact .inr hk⟩
theorem Cov.upd {w0:World} {b:Nat} {o:Obj} {B B':GH} (h:Upd B b o B'):Cov w0 B B':=⟨fun k hk=>.inl (by rw[<- h.keys];exact hk),fun k hk=>by rw[h.keys];exact hk⟩
theorem aJ {b:Nat} {o:Obj} (o':Obj):∀ {B:GH},(b,o)∈B->∃ B',Upd B b o' B'
 | x::B,h=>by
  rcases List.mem_cons.1 h with h | h
  .subst h;exact⟨_,.here b o o' B⟩
  .obtain⟨B',hB'⟩:=aJ o' h
   exact⟨x::B',.there x _ _ _ _ hB'⟩
theorem Upd.left {b:Nat} {o:Obj} {B B' H:GH} (h:Upd B b o B'):Upd (B++H) b o (B'++H):=by
 induction h with
 | here b o o' t=>exact .here b o o' _
 | there x t t' b o' h ih=>exact .there x _ _ b o' ih
theorem Upd.isin {b:Nat} {o:Obj} {B B':GH} (h:Upd B b o B'):(b,o)∈B':=by
 induction h with
 | here=>exact List.mem_cons_self ..
 | there x t t' b o' h ih=>exact List.mem_cons_of_mem _ ih
inductive Pull:GH->GH->GH->Prop
 | here (S R:GH):Pull (S++R) S R
 | hereC (x:Nat×Obj) (R:GH):Pull (x::R) [x] R
 | there (A:GH) {H S R:GH} (h:Pull H S R):Pull (A++H) S (A++R)
 | thereC (x:Nat×Obj) {H S R:GH} (h:Pull H S R):Pull (x::H) S (x::R)
theorem Pull.perm {H S R:GH} (h:Pull H S R):H.Perm (S++R):=by
 induction h with
 | here=>exact List.Perm.refl _
 | hereC=>exact List.Perm.refl _
 | @there A H S R h ih=>
  refine(List.Perm.append_left A ih).trans ?_
  rw[<- List.append_assoc,<- List.append_assoc]
  exact List.Perm.append_right R List.perm_append_comm
 | @thereC x H S R h ih=>exact(List.Perm.cons x ih).trans List.perm_middle.symm
theorem Pull.st {w0 w:World} {H S R:GH} (h:Pull H S R) (hs:St w0 H w):St w0 (S++R) w:=hs.perm h.perm
theorem Pull.push {w0 w:World} {H S R:GH} (h:Pull H S R) (hs:St w0 (S++R) w):St w0 H w:=hs.perm h.perm.symm
theorem Pull.sub {H S R:GH} (h:Pull H S R):∀ x∈S,x∈H:=fun _ hx=>h.perm.mem_iff.2 (List.mem_append_left _ hx)
theorem Pull.mem {H R:GH} {x:Nat×Obj} (h:Pull H [x] R):x∈H:=h.sub x (List.mem_singleton.2 rfl)
def Fr (w0:World) (H:GH):Prop:=∀ k,k∈keys H->w0.heap.size<=k
theorem Fr.nil {w0:World}:Fr w0 []:=fun _ h=>by simp at h
theorem Fr.cons {w0:World} {b:Nat} {o:Obj} {H:GH} (hb:w0.heap.size<=b) (h:Fr w0 H):Fr w0 ((b,o)::H):=fun k hk=>by
 simp only[keys_cons,List.mem_cons] at hk
 exact hk.elim (fun e=>e▸hb) (h k)
theorem Fr.seg {w0:World} {B H:GH} (hb:Cov w0 [] B) (h:Fr w0 H):Fr w0 (B++H):=fun k hk=>by
 simp only[keys_append,List.mem_append] at hk
 exact hk.elim (hb.fresh k) (h k)
def OJ {α:Type} (T:TypeId) (s:Nat) (c:α->Nat->Value) (B:GH) (v:Value) (l:List α):Prop:=
 (v=.slice none 0 0/\l=[])∨∃ b o cap N F,(b,BK N F T)∈B/\v=.slice (some ⟨b,o,none⟩) l.length cap/\l.length<=cap/\o+cap*s<=N/\cap<=maxLen/\∀ i,i<l.length*s->F (o+i)=eG s c l i
section
variable {α:Type} {w0 w:World} {T:TypeId} {s:Nat} {c:α->Nat->Value} {B H R:GH} {v:Value} {l:List α}
theorem OJ.nil:OJ T s c B (.slice none 0 0) ([]:List α):=.inl ⟨rfl,rfl⟩
theorem OJ.mono {B':GH} (h:OJ T s c B v l) (hB:∀ x∈B,x∈B'):OJ T s c B' v l:=by
 rcases h with h | ⟨b,o,cp,N,F,h1,h2⟩
 .exact .inl h
 .exact .inr ⟨b,o,cp,N,F,hB _ h1,h2⟩
theorem OJ.val (h:OJ T s c B v l):∃ p cap,v=.slice p l.length cap:=by
 rcases h with ⟨rfl,rfl⟩ | ⟨b,o,cp,N,F,h1,h2,h3⟩
 .exact⟨none,0,rfl⟩
 .exact⟨_,_,h2⟩
theorem OJ.sl (h:OJ T s c B v l) (hs:St w0 H w) (hB:∀ x∈B,x∈H):SL w s c v l:=by
 rcases h with ⟨rfl,rfl⟩ | ⟨b,o,cp,N,F,h1,h2,h3,h4,h5,h6⟩
 .exact SL.nil
 .refine⟨_,_,h2,h3,h5,fun h=>(by cases h),SrcAt.own hs (hB _ h1) ?_ h6⟩
  have:=Nat.mul_le_mul_right s h3
  omega
theorem OJ.lit {b n N:Nat} {F:Nat->Value} (hm:(b,BK N F T)∈B) (hl:n=l.length) (hN:n*s<=N) (hmx:n<=maxLen) (hF:∀ i,i<n*s->F i=eG s c l i):OJ T s c B (.slice (some ⟨b,0,none⟩) n n) l:=by
 subst hl
 exact .inr ⟨b,0,_,N,F,hm,rfl,Nat.le_refl _,Aa,hmx,fun i hi=>by rw[Nat.zero_add];exact hF i hi⟩
theorem Abq {lo:Nat} (hlo:lo<=l.length) (hs:0<s) (i:Nat):eG s c (l.drop lo) i=eG s c l (lo*s+i):=by
 simp only[eG,List.getElem?_drop]
 rw[Nat.mul_comm lo s,Nat.mul_add_div hs,Nat.mul_add_mod]
theorem Abp {hi i:Nat} (h:i<(l.take hi).length*s) (hs:0<s):eG s c (l.take hi) i=eG s c l i:=by
 have h1:i / s<(l.take hi).length:=by rw[Nat.div_lt_iff_lt_mul hs];exact h
 simp only[eG]
 rw[List.getElem?_take_of_lt (by simp at h1;omega)]
def Rf (v:Value) (s lo hi:Nat):Value:=match v with
 | .slice p _ cap=>.slice (if cap=lo then p else p.map (·.add (lo*s))) (hi-lo) (cap-lo)
 | v=>v
theorem OJ.cut {lo hi:Nat} (h:OJ T s c B v l) (hlo:lo<=hi) (hhi:hi<=l.length) (hs:0<s):OJ T s c B (Rf v s lo hi) ((l.take hi).drop lo):=by
 rcases h with ⟨rfl,rfl⟩ | ⟨b,o,cp,N,F,h1,rfl,h3,h4,h5,h6⟩
 .simp at hhi
  subst hhi
  obtain rfl:lo=0:=Aa
  exact .inl ⟨rfl,rfl⟩
 .have hlen:((l.take hi).drop lo).length=hi-lo:=by simp;omega
  have key:∀ i,i<(hi-lo)*s->eG s c ((l.take hi).drop lo) i=eG s c l (lo*s+i):=by
   intro i hi'
   rw[Abq (by simp;omega) hs]
   refine Abp ?_ hs
   rw[List.length_take,Nat.min_eq_left hhi]
   have:(hi-lo)*s+lo*s=hi*s:=by rw[<- Nat.add_mul];congr 1;omega
   omega
  have hhs:=Nat.mul_le_mul_right s hhi
  have hcs:=Nat.mul_le_mul_right s h3
  have hls:=Nat.mul_le_mul_right s hlo
  by_cases hcl:cp=lo
  .refine .inr ⟨b,o,cp-lo,N,F,h1,by simp[Rf,hcl,hlen],by rw[hlen];omega,?_,Aa,?_⟩
   .subst hcl;simp;omega
   .intro i hi'
    rw[hlen] at hi'
    have:hi-lo=0:=Aa
    rw[this] at hi'
    omega
  .refine .inr ⟨b,o+lo*s,cp-lo,N,F,h1,by simp[Rf,hcl,hlen,Addr.add_lit],by rw[hlen];omega,?_,Aa,?_⟩
   .rw[Nat.sub_mul]
    have:=Nat.mul_le_mul_right s (show lo<=cp by omega)
    omega
   .intro i hi'
    rw[hlen] at hi'
    rw[key i hi',Nat.add_assoc]
    refine h6 _ ?_
    have:(hi-lo)*s+lo*s=hi*s:=by rw[<- Nat.add_mul];congr 1;omega
    omega
theorem SL.cut {lo hi:Nat} (h:SL w s c v l) (hlo:lo<=hi) (hhi:hi<=l.length) (hs:0<s):SL w s c (Rf v s lo hi) ((l.take hi).drop lo):=by
 obtain⟨p,cp,rfl,h3,h5,h6,h7⟩:=h
 have hlen:((l.take hi).drop lo).length=hi-lo:=by simp;omega
 have key:∀ i,i<(hi-lo)*s->eG s c ((l.take hi).drop lo) i=eG s c l (lo*s+i):=by
  intro i hi'
  rw[Abq (by simp;omega) hs]
  refine Abp ?_ hs
  rw[List.length_take,Nat.min_eq_left hhi]
  have:(hi-lo)*s+lo*s=hi*s:=by rw[<- Nat.add_mul];congr 1;omega
  omega
 have hsum:(hi-lo)*s+lo*s=hi*s:=by rw[<- Nat.add_mul];congr 1;omega
 have hhs:=Nat.mul_le_mul_right s hhi
 refine⟨if cp=lo then p else p.map (·.add (lo*s)),cp-lo,by rw[hlen];rfl,by rw[hlen];omega,Aa,?_,?_⟩
 .intro hp
  split at hp
  .omega
  .cases p with
   | none=>have:=h6 rfl;omega
   | some a=>simp at hp
 .rw[hlen]
  rcases Nat.eq_zero_or_pos ((hi-lo)*s) with h0 | h0
  .exact .inl h0
  .rcases h7 with h7 | ⟨b,o,rfl,hc⟩
   .omega
   .have hpos:0<hi-lo:=Nat.pos_of_mul_pos_right h0
    rw[Af Aa]
    refine .inr ⟨b,o+lo*s,by simp[Addr.add_lit],fun i hi'=>?_⟩
    rw[Nat.add_assoc,hc _ Aa,key i hi']
def QT (v:Value) (k:Nat):Addr:=match v with
 | .slice (some a) _ _=>a.add k
 | _=>⟨0,k,none⟩
theorem SL.place {j:Nat} (h:SL w s c v l) (hj:j<l.length) (hs:0<s):∃ b o cap,v=.slice (some ⟨b,o,none⟩) l.length cap/\∀ k,k<s->w.cell? ⟨b,o+(j*s+k),none⟩=some (c l[j] k):=by
 obtain⟨b,o,cp,hv,_,_,_,hc⟩:=Sl.at h hj hs
 refine⟨b,o,cp,hv,fun k hk=>?_⟩
 have:j*s+k<l.length*s:=by
  have:=Nat.mul_le_mul_right s (show j+1<=l.length by omega)
  rw[Nat.add_mul,Nat.one_mul] at this
  omega
 rw[hc _ this,Agr hj hk]
end
def I8 (T:TypeId) (c:Int):Value:=if c=0 then .nilIface else .iface T (.int .i64 c)
section
variable {α:Type} {P:Program} {n:Nat} {w0:World} {env:HH} {H R:GH} {Q:Exit->Act->World->Prop} {ops:Array Oper} {rest:List Oper}
variable {ty:TypeId} {pos:String} {af:Array Edge} {g:Option (Nat×Bool)}
variable {t yt:TypeId} {x y:Operand} {b o N s:Nat} {T:TypeId} {c:α->Nat->Value} {v:Value} {l:List α} {B:GH}
theorem Hs {d:Option Nat} {e:TypeId} {ts:Array TypeId} (ht:ts=#[t]) (he:P.underlying t=some (.slice e)) {args:Array Operand} (hargs:Ui env args.toList=some [v]) (hv:∃ p cap,v=.slice p l.length cap) :
  OT P w0 env H ⟨d,.call ⟨.builtin .len,args,ts⟩,ty,pos,af,g⟩ (Is (.int .i64 (l.length:Int)) H):=AgR ht he hargs hv
theorem Hy {d:Option Nat} {e:TypeId} {ag:Bool} {k:IntKind} {i:Int} (he:Zf P t e s ag) (hx:ev env x=some v) (dK:Nat.blt 0 s=true) (hv:∀ w,St w0 H w->SL w s c v l) (hy:ev env y=some (.int k i)) (h0:0<=i/\i<l.length) :
  OT P w0 env H ⟨d,.indexAddr t x y,ty,pos,af,g⟩ (Is (.pointer (some (QT v (i.toNat*s)))) H):=by
 intro a w ha hst
 have hspos:0<s:=by simpa [Nat.blt_eq] using dK
 obtain⟨b,o,cp,rfl,_⟩:=(hv w hst).place (j:=i.toNat) Aa hspos
 simp only[QT,Addr.add_lit]
 exact Kf (w0:=w0) (H:=H) he hx hy h0 rfl a w ha hst
theorem Nw {d:Option Nat} {f off k j s':Nat} {ag:Bool} (hf:IQ P t f off s' ag) (hx:ev env x=some (.pointer (some (QT v k)))) (dK:Nat.blt 0 s=true) (hv:∀ w,St w0 H w->SL w s c v l) (hj:j<l.length) :
  OT P w0 env H ⟨d,.fieldAddr t x f,ty,pos,af,g⟩ (Is (.pointer (some (QT v (k+off)))) H):=by
 intro a w ha hst
 obtain⟨b,o,cp,rfl,_⟩:=(hv w hst).place hj (by simpa [Nat.blt_eq] using dK)
 simp only[QT,Addr.add_lit,<- Nat.add_assoc] at hx ⊢
 exact L4 (w0:=w0) (H:=H) hf hx a w ha hst
theorem HN [Inhabited α] {d:Option Nat} {k j off q:Nat} {u:Value} (hx:ev env x=some (.pointer (some (QT v k)))) (ht:TyS P t q false) (dK:Nat.blt off s=true) (hv:∀ w,St w0 H w->SL w s c v l) (hj:j<l.length) (hk:k=j*s+off) (hu:c l[j]! off=u) :
  OT P w0 env H ⟨d,.load t x,ty,pos,af,g⟩ (Is u H):=by
 subst hk hu
 refine OT.val fun a w ha hs=>?_
 have hso:off<s:=by simpa [Nat.blt_eq] using dK
 obtain⟨b,o,cp,rfl,hc⟩:=(hv w hs).place hj Aa
 rw[getElem!_pos l j hj]
 refine⟨_,w,H,We (b:=b) (o:=o+(j*s+off)) ?_ ht (hc off hso),hs,rfl,rfl⟩
 rw[ha.ev hx];simp[QT,Addr.add_lit]
theorem MR [Inhabited α] {d:Option Nat} {k j off q:Nat} {f:Nat->Value} (hx:ev env x=some (.pointer (some (QT v k)))) (ht:TyS P t q true) (hq:Nat.ble (off+q) s=true) (lL:Nat.blt 0 q=true) (hv:∀ w,St w0 H w->SL w s c v l) (hj:j<l.length) (hk:k=j*s+off) (hu:∀ i,i<q->c l[j]! (off+i)=f i) :
  OT P w0 env H ⟨d,.load t x,ty,pos,af,g⟩ (Is (AG q f) H):=by
 subst hk
 have hle:=Nat.le_of_ble_eq_true hq
 have hq0':0<q:=by simpa [Nat.blt_eq] using lL
 refine OT.val fun a w ha hs=>?_
 obtain⟨b,o,cp,rfl,hc⟩:=(hv w hs).place hj Aa
 refine⟨_,w,H,SO (b:=b) (o:=o+(j*s+off)) (f:=f) ?_ ht (fun i hi=>?_),hs,rfl,rfl⟩
 .rw[ha.ev hx];simp[QT,Addr.add_lit]
 .have:=hc (off+i) Aa
  rw[show o+(j*s+off)+i=o+(j*s+(off+i)) by omega,this,<- hu i hi,getElem!_pos l j hj]
theorem ND {d:Option Nat} {l:List (Nat->Int)} {k j:Nat} (hx:ev env x=some (.pointer (some (QT v k)))) (ht:TyS P t s true) (dK:Nat.blt 0 s=true) (hv:∀ w,St w0 H w->SL w s iv v l) (hj:j<l.length) (hk:k=j*s) :
  OT P w0 env H ⟨d,.load t x,ty,pos,af,g⟩ (Is (AI s l[j]!) H):=
 MR (off:=0) hx ht Ad dK hv hj hk (fun i _=>by rw[Nat.zero_add])
theorem AaR {d:Option Nat} {a:Act} {w:World} {e:TypeId} {ag:Bool} {lo hi:Option Operand} {m h:Nat} (he:Zf P t e s ag) (hx:a.eval x=v) (hv:∃ p cap,v=.slice p l.length cap/\l.length<=cap) (hlo:∀ o,lo=some o->∃ k,a.eval o=.int k (m:Int)) (hlo':lo=none->m=0) (hhi:∀ o,hi=some o->∃ k,a.eval o=.int k (h:Int)) (hhi':hi=none->h=l.length) (hlh:m<=h) (hhc:h<=l.length) :
  (execOp a.eval ⟨d,.slice t x lo hi none,ty,pos,af,g⟩).run P w=.ok (.value (Rf v s m h)) w:=by
 obtain⟨p,cap,rfl,hc⟩:=hv
 exact Ab4 he hx hlo hlo' hhi hhi' hlh (Nat.le_trans hhc hc)
theorem AdL {d:Option Nat} {e:TypeId} {ag:Bool} {o2:Operand} {k:IntKind} {j:Int} (he:Zf P t e s ag) (hx:ev env x=some v) (hv:∀ w,St w0 H w->SL w s c v l) (h2:ev env o2=some (.int k j)) (hj:0<=j/\j<=l.length) :
  OT P w0 env H ⟨d,.slice t x none (some o2) none,ty,pos,af,g⟩ (Is (Rf v s 0 j.toNat) H):=
 OT.val fun a w ha hs=>⟨_,w,H,AaR (l:=l) he (ha.ev hx) (let ⟨p,cp,h,h',_⟩:=hv w hs;⟨p,cp,h,h'⟩) (fun o ho=>by cases ho) (fun _=>rfl) (fun o ho=>by cases ho;exact⟨k,by rw[ha.ev h2,Int.toNat_of_nonneg hj.1]⟩) (fun h=>by cases h) (Nat.zero_le _) Aa,hs,rfl,rfl⟩
theorem AdK {d:Option Nat} {e:TypeId} {ag:Bool} {o1:Operand} {k:IntKind} {i:Int} (he:Zf P t e s ag) (hx:ev env x=some v) (hv:∀ w,St w0 H w->SL w s c v l) (h1:ev env o1=some (.int k i)) (hi:0<=i/\i<=l.length) :
  OT P w0 env H ⟨d,.slice t x (some o1) none none,ty,pos,af,g⟩ (Is (Rf v s i.toNat l.length) H):=
 OT.val fun a w ha hs=>⟨_,w,H,AaR (l:=l) he (ha.ev hx) (let ⟨p,cp,h,h',_⟩:=hv w hs;⟨p,cp,h,h'⟩) (fun o ho=>by cases ho;exact⟨k,by rw[ha.ev h1,Int.toNat_of_nonneg hi.1]⟩) (fun h=>by cases h) (fun o ho=>by cases ho) (fun _=>rfl) Aa Aa,hs,rfl,rfl⟩
theorem UR {d:Option Nat} {ds:TypeDesc} {r:Int} (ht:P.underlying t=some ds) (hz:QE ds=some .nilIface) (hk:∀ u,Il ds (.iface u (.int .i64 r))=true) (tp:Il ds .nilIface=true) (hx:ev env x=some (I8 T r)) :
  OT P w0 env H ⟨d,.binOp .eql t x (.const .nilIface) yt,ty,pos,af,g⟩ (Is (.bool (decide (r=0))) H):=by
 refine HP (r:=decide (r=0)) ht hz hx ?_ ?_
 .unfold I8;split
  .exact tp
  .exact hk _
 .unfold I8;split
  .rename_i h;simp[K7,h]
  .rename_i h;simp[K7,h]
theorem IS {d:Option Nat} {ds:TypeDesc} {r:Int} (ht:P.underlying t=some ds) (hz:QE ds=some .nilIface) (hk:∀ u,Il ds (.iface u (.int .i64 r))=true) (tp:Il ds .nilIface=true) (hx:ev env x=some (I8 T r)) :
  OT P w0 env H ⟨d,.binOp .neq t x (.const .nilIface) yt,ty,pos,af,g⟩ (Is (.bool (!decide (r=0))) H):=by
 refine I6 (r:=decide (r=0)) ht hz hx ?_ ?_
 .unfold I8;split
  .exact tp
  .exact hk _
 .unfold I8;split
  .rename_i h;simp[K7,h]
  .rename_i h;simp[K7,h]
end
end Go.E
namespace Go.E
open Go
def Oj (T:TypeId) (s:Nat) (B:GH) (v:Value) (n:Nat) (G:Nat->Value):Prop:=
 (v=.slice none 0 0/\n=0)∨∃ b o c N F,(b,BK N F T)∈B/\v=.slice (some ⟨b,o,none⟩) n c/\n<=c/\o+c*s<=N/\c<=maxLen/\∀ i,i<n*s->F (o+i)=G i
theorem Oj.val {T:TypeId} {s n:Nat} {B:GH} {v:Value} {G:Nat->Value} (h:Oj T s B v n G):∃ p c,v=.slice p n c/\n<=c/\c<=maxLen/\(p=none->c=0):=by
 rcases h with ⟨h2,h3⟩ | ⟨b,o,c,N,F,h1,h3,h4,h5,h6,h7⟩
 .subst h3;exact⟨none,0,h2,Nat.le_refl _,Nat.zero_le _,fun _=>rfl⟩
 .exact⟨_,c,h3,h4,h6,fun h=>by cases h⟩
theorem Oj.ext {T:TypeId} {s n:Nat} {B:GH} {v:Value} {G G':Nat->Value} (h:Oj T s B v n G) (hG:∀ i,i<n*s->G i=G' i):Oj T s B v n G':=by
 rcases h with h | ⟨b,o,c,N,F,h1,h3,h4,h5,h6,h7⟩
 .exact .inl h
 .exact .inr ⟨b,o,c,N,F,h1,h3,h4,h5,h6,fun i hi=>(h7 i hi).trans (hG i hi)⟩
section
variable {P:Program} {n:Nat} {w0:World} {env:HH} {H:GH} {Q:Exit->Act->World->Prop} {ops:Array Oper} {rest:List Oper}
variable {d:Option Nat} {op:Op} {ty:TypeId} {pos:String} {af:Array Edge} {g:Option (Nat×Bool)}
variable {t yt:TypeId} {x y:Operand} {b o N s:Nat} {F:Nat->Value} {m k:Nat->Int} {T:TypeId}
theorem AdO {e:TypeId} {by_:Nat} {z:Value} {B:GH} {v:Value} {n m c2:Nat} {G S:Nat->Value} {q:Option Addr} {ts:Array TypeId} {args:Array Operand} (ht:App P t e s by_ z) (hts:ts=#[t,t]) (hargs:Ui env args.toList=some [v,.slice q m c2]) (hown:Oj e s B v n G) (hsrc:∀ w,St w0 (B++H) w->SrcAt w q (m*s) S) (h1:∀ i,i<m*s->(S i).oneCell'=true) (hmax:n+m<=maxLen) (hby:(n+m)*by_<=140737488355328) :
  OT P w0 env (B++H) ⟨d,.call ⟨.builtin .append,args,ts⟩,ty,pos,af,g⟩ (fun v' H'=>∃ B',H'=B'++H/\Cov w0 B B'/\Oj e s B' v' (n+m) (app G (n*s) S)):=
 OT.val fun a w ha hs=>by
  subst hts
  have e1:args.map a.eval=#[v,.slice q m c2]:=Array.toList_inj.1 (by simpa using La ha _ _ hargs)
  have hexec:(execOp a.eval ⟨d,.call ⟨.builtin .append,args,#[t,t]⟩,ty,pos,af,g⟩).run P w=((Builtin.append_ #[t,t] ty #[v,.slice q m c2]).run P w).andThen fun u w'=>.ok (.value u) w':=by
   simp[execOp,resolve,invoke,builtin,e1]
  obtain⟨i,hi,hi'⟩:=Option.map_eq_some_iff.1 ht.i
  simp only[Prod.mk.injEq] at hi'
  obtain⟨qO,lv,D9⟩:=hi'
  have hspos:0<s:=by simpa [Nat.blt_eq] using ht.pos
  have hmx:maxLen=9223372036854775807:=Ab
  have hsrc':=hsrc w hs
  rcases Nat.eq_zero_or_pos m with AA | hmpos
  .subst AA
   obtain⟨p,c,hv,hnc,hcm,hpn⟩:=hown.val
   have hr:(Builtin.append_ #[t,t] ty #[v,.slice q 0 c2]).run P w=.ok v w:=by
    rw[hv]
    cases q <;> cases p <;> simp[Builtin.append_,run_underlying ht.u,Go.sizeOf,typeInfo,hi,Builtin.lenOf,hnc,Builtin.firstCells,loadCells,loadCellsFrom,storeCells]
   refine⟨v,w,B++H,by rw[hexec,hr];rfl,hs,B,rfl,Cov.refl B,?_⟩
   rw[Nat.add_zero]
   exact hown.ext fun i hi=>by simp[app,hi]
  .have hms:m*s≠0:=Nat.mul_ne_zero Aa Aa
   rcases hsrc' with h0 | ⟨b2,o2,hq,hcells⟩
   .exact absurd h0 hms
   .subst hq
    have hl:((List.range (m*s)).map S).length=m*i.size:=by rw[qO];simp
    have hnews:=YA hcells
    have hoc:∀ u∈(List.range (m*s)).map S,u.oneCell'=true:=by
     intro u hu
     obtain⟨j,hj,rfl⟩:=List.mem_map.1 hu
     exact h1 j (List.mem_range.1 hj)
    rcases hown with ⟨hv,Fe⟩ | ⟨b,o,c,N,F,hB,hv,hnc,hoN,hcm,hF⟩
    .subst hv Fe
     simp only[Nat.zero_add] at hmax hby
     have hr:=run_append_nil (P:=P) w t ty e i z ht.u hi D9 ⟨b2,o2,none⟩ m c2 _ hl hnews hmpos Aa (by rw[lv];omega)
     have hgc:=grownCap_ge w m 0 e
     have hgm:=grownCap_le_maxLen w m 0 e Aa
     have hobj:Obj.cells (((List.range (m*s)).map S).toArray++Builtin.zeroCells z.cells (grownCap w m 0 e-m)) e=BK (grownCap w m 0 e*s) (fun j=>(((List.range (m*s)).map S).toArray++Builtin.zeroCells z.cells (grownCap w m 0 e-m)).getD j undef) e:=by
      unfold BK
      congr 1
      refine Sf ?_ fun j hj=>?_
      .simp only[Array.size_append,List.size_toArray,List.length_map,List.length_range,size_zeroCells,ht.z,<- Nat.add_mul]
       congr 1;omega
      .have hsz:(((List.range (m*s)).map S).toArray++Builtin.zeroCells z.cells (grownCap w m 0 e-m)).size=grownCap w m 0 e*s:=by
        simp only[Array.size_append,List.size_toArray,List.length_map,List.length_range,size_zeroCells,ht.z,<- Nat.add_mul]
        congr 1;omega
       simp only[Array.getD_eq_getD_getElem?]
       rw[Array.getElem?_eq_getElem (by rw[hsz];exact hj)]
       rfl
     have hst:=(hs.drew).alloc (Obj.cells (((List.range (m*s)).map S).toArray++Builtin.zeroCells z.cells (grownCap w m 0 e-m)) e)
     refine⟨_,_,_,by rw[hexec,hr];rfl,hst,(w.heap.size,BK (grownCap w m 0 e*s) (fun j=>(((List.range (m*s)).map S).toArray++Builtin.zeroCells z.cells (grownCap w m 0 e-m)).getD j undef) e)::B,by rw[hobj];rfl,Cov.new hs.size,?_⟩
     refine .inr ⟨w.heap.size,0,grownCap w m 0 e,_,_,List.mem_cons_self ..,by rw[Nat.zero_add],Aa,Aa,hgm,fun j hj=>?_⟩
     simp only[Nat.zero_add] at hj ⊢
     simp only[app,Nat.zero_mul,Nat.not_lt_zero,if_false,Nat.sub_zero]
     rw[Array.getD_eq_getD_getElem?,Array.getElem?_append_left (by simpa using hj)]
     simp[hj]
    .subst hv
     by_cases hroom:n+m<=c
     .skip
      have hbk:w.heap[b]? = some (BK N F e):=hs.own _ _ (List.mem_append_left _ hB)
      have hcs:(n+m)*s<=c*s:=Nat.mul_le_mul_right _ hroom
      rw[Nat.add_mul] at hcs
      have hfc:=run_firstCells_some (P:=P) w i.size m ⟨b2,o2,none⟩ m c2 _ hl hnews
      have hst:=run_storeCells_at P b (o+n*s) e ((List.range (m*s)).map S) 0 (CV N F) w hbk (by simp;omega) hoc
      simp only[Nat.add_zero] at hst
      have hr:(Builtin.append_ #[t,t] ty #[.slice (some ⟨b,o,none⟩) n c,.slice (some ⟨b2,o2,none⟩) m c2]).run P w=.ok (.slice (some ⟨b,o,none⟩) (n+m) c) (w.setRow b ((CV N F).toList.take (o+n*s)++(List.range (m*s)).map S++(CV N F).toList.drop (o+n*s+((List.range (m*s)).map S).length)).toArray):=by
       subst qO
       simp[Builtin.append_,run_underlying ht.u,Go.sizeOf,typeInfo,hi,Builtin.lenOf,hroom,hfc,Addr.add_lit]
       simp at hst
       rw[hst]
       rfl
      have hsp:((CV N F).toList.take (o+n*s)++(List.range (m*s)).map S++(CV N F).toList.drop (o+n*s+((List.range (m*s)).map S).length)).toArray=CV N (J9 F (o+n*s) (m*s) S):=
       SC (by simp;omega) (fun j hj=>by
        have hj':j<m*s:=by simpa using hj
        simp only[J9]
        rw[Ae Aa]
        simp[hj']) (fun j _ hh=>by
        simp only[List.length_map,List.length_range] at hh
        simp only[J9];rw[Af Aa])
      obtain⟨B',hB'⟩:=aJ (BK N (J9 F (o+n*s) (m*s) S) e) hB
      refine⟨_,_,_,by rw[hexec,hr];rfl,hs.setRow (N:=N) (F:=F) (T:=e) (b:=b) (f':=J9 F (o+n*s) (m*s) S) (List.mem_append_left _ hB) hsp hB'.left,B',rfl,Cov.upd hB',?_⟩
      refine .inr ⟨b,o,c,N,_,hB'.isin,rfl,hroom,hoN,hcm,fun j hj=>?_⟩
      rw[Nat.add_mul] at hj
      simp only[J9,app]
      by_cases hjn:j<n*s
      .rw[Af Aa,Ae hjn,hF j hjn]
      .rw[Ae Aa,Af hjn];congr 1;omega
     .skip
      have hns:n*s<=c*s:=Nat.mul_le_mul_right _ hnc
      have hbk:w.heap[b]? = some (BK N F e):=hs.own _ _ (List.mem_append_left _ hB)
      have holds:∀ j u,((List.range (n*s)).map G)[j]? = some u->w.cell? ((⟨b,o,none⟩:Addr).add j)=some u:=
       YA fun j hj=>by rw[Kc hbk Aa,hF j hj]
      have hr:=run_append_grow (P:=P) w t ty e i z ht.u hi D9 ⟨b,o,none⟩ n c ((List.range (n*s)).map G) (by rw[qO];simp) holds ⟨b2,o2,none⟩ m c2 _ hl hnews Aa Aa (growslice_fits Aa (by rw[lv];exact hby))
      have hgc:=grownCap_ge w (n+m) c e
      have hgm:=grownCap_le_maxLen w (n+m) c e hmax
      have hsz:(((List.range (n*s)).map G).toArray++((List.range (m*s)).map S).toArray++Builtin.zeroCells z.cells (grownCap w (n+m) c e-(n+m))).size=grownCap w (n+m) c e*s:=by
       simp only[Array.size_append,List.size_toArray,List.length_map,List.length_range,size_zeroCells,ht.z,<- Nat.add_mul]
       congr 1;omega
      have hobj:Obj.cells (((List.range (n*s)).map G).toArray++((List.range (m*s)).map S).toArray++Builtin.zeroCells z.cells (grownCap w (n+m) c e-(n+m))) e =
        BK (grownCap w (n+m) c e*s) (fun j=>(((List.range (n*s)).map G).toArray++((List.range (m*s)).map S).toArray++Builtin.zeroCells z.cells (grownCap w (n+m) c e-(n+m))).getD j undef) e:=by
       unfold BK
       congr 1
       refine Sf hsz fun j hj=>?_
       simp only[Array.getD_eq_getD_getElem?]
       rw[Array.getElem?_eq_getElem (by rw[hsz];exact hj)]
       rfl
      have hst:=(hs.drew).alloc (Obj.cells (((List.range (n*s)).map G).toArray++((List.range (m*s)).map S).toArray++Builtin.zeroCells z.cells (grownCap w (n+m) c e-(n+m))) e)
      refine⟨_,_,_,by rw[hexec,hr];rfl,hst,(w.heap.size,BK (grownCap w (n+m) c e*s) (fun j=>(((List.range (n*s)).map G).toArray++((List.range (m*s)).map S).toArray++Builtin.zeroCells z.cells (grownCap w (n+m) c e-(n+m))).getD j undef) e)::B,by rw[hobj];rfl,Cov.new hs.size,?_⟩
      refine .inr ⟨w.heap.size,0,grownCap w (n+m) c e,_,_,List.mem_cons_self ..,rfl,hgc,Aa,hgm,fun j hj=>?_⟩
      rw[Nat.add_mul] at hj
      simp only[Nat.zero_add,app]
      rw[Array.getD_eq_getD_getElem?,Array.getElem?_append_left (by simp;omega)]
      by_cases hjn:j<n*s
      .rw[Ae hjn,Array.getElem?_append_left (by simpa using hjn)]
       simp[hjn]
      .rw[Af hjn,Array.getElem?_append_right (by simp;omega)]
       simp[show j-n*s<m*s by omega]
end
section
variable {α:Type} {P:Program} {w0:World} {env:HH} {H:GH}
variable {d:Option Nat} {ty:TypeId} {pos:String} {af:Array Edge} {g:Option (Nat×Bool)} {t:TypeId} {s:Nat} {c:α->Nat->Value}
theorem Hj {e:TypeId} {by_:Nat} {z:Value} {B:GH} {v u:Value} {l l':List α} {ts:Array TypeId} {args:Array Operand} (ht:App P t e s by_ z) (hts:ts=#[t,t]) (hargs:Ui env args.toList=some [v,u]) (hown:OJ e s c B v l) (hsrc:∀ w,St w0 (B++H) w->SL w s c u l') (h1:∀ (a:α) (i:Nat),(c a i).oneCell'=true) (hby:(l.length+l'.length)*by_<=140737488355328) (hmax:l.length+l'.length<=maxLen) :
  OT P w0 env (B++H) ⟨d,.call ⟨.builtin .append,args,ts⟩,ty,pos,af,g⟩ (fun v' H'=>∃ B',H'=B'++H/\Cov w0 B B'/\OJ e s c B' v' (l++l')):=by
 intro a w ha hs
 obtain⟨p,cap,hu,_,_,hpn,zN⟩:=hsrc w hs
 subst hu
 have hspos:0<s:=by simpa [Nat.blt_eq] using ht.pos
 have sJ:∀ w',St w0 (B++H) w'->SrcAt w' p (l'.length*s) (eG s c l'):=by
  intro w' hs'
  obtain⟨p',cap',hu',_,_,_,h⟩:=hsrc w' hs'
  cases hu'
  exact h
 have h1':∀ i,i<l'.length*s->(eG s c l' i).oneCell'=true:=by
  intro i hi
  have:i / s<l'.length:=by rw[Nat.div_lt_iff_lt_mul hspos];exact hi
  simp only[eG,List.getElem?_eq_getElem this,Option.elim_some,h1]
 have hj:Oj e s B v l.length (eG s c l):=by
  rcases hown with ⟨h1,h2⟩ | h
  .exact .inl ⟨h1,by rw[h2];rfl⟩
  .exact .inr h
 have:=AdO (d:=d) (ty:=ty) (pos:=pos) (af:=af) (g:=g) (B:=B) (H:=H) (n:=l.length) (m:=l'.length) ht hts hargs hj sJ h1' hmax hby a w ha hs
 refine I3 ?_ (fun _ _ _ h=>h.elim) this
 rintro a' w' ⟨v',H',rfl,hs',B',rfl,hcov,hown'⟩
 refine⟨v',_,rfl,hs',B',rfl,hcov,?_⟩
 have hx:=hown'.ext (Aez hspos c l l')
 rcases hx with ⟨h1,h2⟩ | ⟨b,o,cp,N,F,h1,h2⟩
 .exact .inl ⟨h1,by rw[<- List.length_append] at h2;exact List.length_eq_zero_iff.1 h2⟩
 .exact .inr ⟨b,o,cp,N,F,h1,by rw[List.length_append];exact h2⟩
theorem Ahp {l:List α} {j:Nat} (e:α) (hj:j<l.length) (hs:0<s) (i:Nat):eG s c (l.set j e) i=if j*s<=i/\i<j*s+s then c e (i-j*s) else eG s c l i:=by
 simp only[eG,List.getElem?_set]
 have hdm:=Nat.div_add_mod i s
 have hml:=Nat.mod_lt i hs
 by_cases h:j=i / s
 .subst h
  rw[Nat.mul_comm] at hdm
  rw[Ae rfl,Ae hj,Ae Aa]
  simp only[Option.elim_some]
  congr 1;omega
 .rw[Af h,Af]
  intro hh
  apply h
  have h1:j<=i / s:=(Nat.le_div_iff_mul_le hs).2 hh.1
  have h2:i / s<j+1:=by rw[Nat.div_lt_iff_lt_mul hs,Nat.add_mul,Nat.one_mul];exact hh.2
  omega
theorem OJ.set {T:TypeId} {B:GH} {v:Value} {l:List α} {j:Nat} (h:OJ T s c B v l) (hj:j<l.length) (hs:0<s) (e:α):∃ b o cap N F,v=.slice (some ⟨b,o,none⟩) l.length cap/\(b,BK N F T)∈B/\o+(j*s+s)<=N /\
  ∀ B',Upd B b (BK N (J9 F (o+j*s) s (c e)) T) B'->OJ T s c B' v (l.set j e):=by
 rcases h with ⟨_,rfl⟩ | ⟨b,o,cap,N,F,h1,h2,h3,h4,h5,h6⟩
 .simp at hj
 .have hle:=Nat.mul_le_mul_right s (show j+1<=l.length by omega)
  have Ff:=Nat.mul_le_mul_right s h3
  rw[Nat.add_mul,Nat.one_mul] at hle
  refine⟨b,o,cap,N,F,h2,h1,Aa,fun B' hu=>.inr ⟨b,o,cap,N,_,hu.isin,by rw[List.length_set];exact h2,by rw[List.length_set];exact h3,h4,h5,fun i hi=>?_⟩⟩
  rw[List.length_set] at hi
  rw[Ahp e hj hs]
  simp only[J9]
  by_cases hh:j*s<=i/\i<j*s+s
  .rw[Ae Aa,Ae hh];congr 1;omega
  .rw[Af Aa,Af hh,h6 i hi]
theorem AgK {T:TypeId} {B:GH} {x y:Operand} {v u:Value} {l:List α} {k j:Nat} {e:α} {c:α->Nat->Value} (hx:ev env x=some (.pointer (some (QT v k)))) (hy:ev env y=some u) (ht:TyS P t 1 false) (h1:u.oneCell'=true) (hJ:OJ T 1 c B v l) (hj:j<l.length) (hk:k=j*1) (hu:c e=fun _=>u) :
  OT P w0 env (B++H) ⟨none,.store t x y,ty,pos,af,g⟩ (fun _ H'=>∃ B',H'=B'++H/\Cov w0 B B'/\OJ T 1 c B' v (l.set j e)):=by
 intro a w ha hs
 subst hk
 obtain⟨b,o,cap,N,F,hv,hm,hle,hset⟩:=hJ.set hj Aa e
 obtain⟨B',hB'⟩:=aJ (BK N (J9 F (o+j*1) 1 (c e)) T) hm
 have e1:J9 F (o+j*1) 1 (c e)=upd F (o+j*1) u:=by
  funext i;simp only[J9,upd,hu]
  by_cases h:i=o+j*1
  .rw[Ae Aa,Ae h]
  .rw[Af Aa,Af h]
 have:=Acb (w0:=w0) (env:=env) (H:=B++H) (H':=B'++H) (b:=b) (o:=o+j*1) (N:=N) (F:=F) (T:=T) (ty:=ty) (pos:=pos) (af:=af) (g:=g) (by rw[hx,hv];simp[QT,Addr.add_lit]) hy ht h1 (List.mem_append_left _ hm) Aa (by rw[<- e1];exact hB'.left) a w ha hs
 refine I3 ?_ (fun _ _ _ h=>h.elim) this
 rintro a' w' ⟨v',H',rfl,hs',rfl,rfl⟩
 exact⟨undef,_,rfl,hs',B',rfl,Cov.upd hB',hset B' hB'⟩
theorem W5 {T:TypeId} {B:GH} {x y:Operand} {v:Value} {l:List α} {k j:Nat} {e:α} {c:α->Nat->Value} (hx:ev env x=some (.pointer (some (QT v k)))) (hy:ev env y=some (AG s (c e))) (ht:TyS P t s true) (dK:Nat.blt 0 s=true) (h1:∀ i,i<s->(c e i).oneCell'=true) (hJ:OJ T s c B v l) (hj:j<l.length) (hk:k=j*s) :
  OT P w0 env (B++H) ⟨none,.store t x y,ty,pos,af,g⟩ (fun _ H'=>∃ B',H'=B'++H/\Cov w0 B B'/\OJ T s c B' v (l.set j e)):=by
 intro a w ha hs
 subst hk
 obtain⟨b,o,cap,N,F,hv,hm,hle,hset⟩:=hJ.set hj (by simpa [Nat.blt_eq] using dK) e
 obtain⟨B',hB'⟩:=aJ (BK N (J9 F (o+j*s) s (c e)) T) hm
 have:=AaW (w0:=w0) (env:=env) (H:=B++H) (H':=B'++H) (b:=b) (o:=o+j*s) (N:=N) (F:=F) (T:=T) (ty:=ty) (pos:=pos) (af:=af) (g:=g) (by rw[hx,hv];simp[QT,Addr.add_lit]) hy ht h1 (List.mem_append_left _ hm) Aa hB'.left a w ha hs
 refine I3 ?_ (fun _ _ _ h=>h.elim) this
 rintro a' w' ⟨v',H',rfl,hs',rfl,rfl⟩
 exact⟨undef,_,rfl,hs',B',rfl,Cov.upd hB',hset B' hB'⟩
end
end Go.E
namespace Go.E
open Go
section
variable {P:Program} {n:Nat} {w0:World} {env:HH} {H:GH} {o:Oper}
theorem OT.st {H1:GH} {R:Value->GH->Prop} (hh:∀ w,St w0 H w->St w0 H1 w) (h:OT P w0 env H1 o R):OT P w0 env H o R:=fun a w ha hs=>h a w ha (hh w hs)
end
end Go.E
namespace Go.E
open Go
section
variable {P:Program} {n:Nat} {w0:World} {ops:Array Oper} {KS:List Nat} {bX env:HH} {dn:List Nat} {H RS:GH} {Q:Exit->Act->World->Prop}
end
end Go.E
namespace Go.E
open Go
theorem GG {i:Int} {n:Nat} (h:0<=i/\i<n):i.toNat<n:=Aa
theorem LN {i:Int} {n:Nat} (h:0<=i/\i<=n):i.toNat<=n:=Aa
theorem GL {v:Value} {n:Nat} (h:∃ p c,v=.slice p n c):v.oneCell'=true:=by obtain⟨p,c,rfl⟩:=h;rfl
theorem G2 {k b:Nat} (h:k*b<=140737488355328) (hb:0<b):k<=maxLen:=by
 have:k*1<=k*b:=Nat.mul_le_mul_left k hb
 have e:maxLen=9223372036854775807:=Ab
 omega
theorem bnT {b:Bool} (h:(!b)=true):b=false:=by simpa using h
theorem bnF {b:Bool} (h:(!b)=false):b=true:=by simpa using h
def RD (s:ByteArray) (i:Int):Int:=((s[i.toNat]?).map fun b=>(b.toNat:Int)).getD 0
section
variable {P:Program} {n:Nat} {w0:World} {env:HH} {H:GH} {Q:Exit->Act->World->Prop} {ops:Array Oper} {rest:List Oper}
variable {ty:TypeId} {pos:String} {af:Array Edge} {g:Option (Nat×Bool)} {t:TypeId} {x y:Operand}
theorem AhT {d:Option Nat} {i:Int} {ds:TypeDesc} (hx:ev env x=some (.int .i64 i)) (h1:P.underlying t=some ds) (h2:(match ds with | .interface _=>false | _=>true)=true) (hi:i≠0) :
  OT P w0 env H ⟨d,.makeInterface t x,ty,pos,af,g⟩ (Is (I8 t i) H):=by
 rw[show I8 t i=.iface t (.int .i64 i) from Af hi]
 exact HE hx h1 h2
theorem Afu {d:Option Nat} {s:ByteArray} {k:IntKind} {i:Int} (hu:P.underlying t=some .string) (hx:ev env x=some (.string s)) (hy:ev env y=some (.int k i)) (h0:0<=i/\i<s.size) :
  OT P w0 env H ⟨d,.index t x y,ty,pos,af,g⟩ (Is (.int .u8 (RD s i)) H):=
 aD fun a w ha=>by
  have hlt:i.toNat<s.size:=Aa
  have hs:s[i.toNat]? = some s[i.toNat]:=getElem?_pos s i.toNat hlt
  simp only[execOp,ha.ev hx,ha.ev hy,Instr.index,asIntOf,Sem.run_bind,Sem.run_pure,Result.andThen_ok,run_underlying hu,Ae h0.1,hs,RD,Option.map_some,Option.getD_some]
end
end Go.E
namespace Go.E
open Go
section
variable {P:Program} {n:Nat} {w0:World} {env:HH} {H:GH} {Q:Exit->Act->World->Prop} {ops:Array Oper} {rest:List Oper}
variable {ty:TypeId} {pos:String} {af:Array Edge} {g:Option (Nat×Bool)}
def XR (P:Program) (n:Nat) (w0:World) (env:HH) (H:GH) (c:Code) (Q:Exit->Act->World->Prop) (N:Nat):Prop:=
 ∀ a w,Ag n env a->St w0 H w->Code.rounds P c Q N a w
theorem AbH (N:Nat) {c:Code} (h:XR P n w0 env H c Q N):XW P n w0 env H (.loop c) Q:=fun a w ha hs=>wp_loop_rounds N (h a w ha hs)
theorem Of {N:Nat} {c:Code} (h:XW P n w0 env H c (Exit.then (Code.rounds P c Q N) Q)):XR P n w0 env H c Q (N+1):=h
theorem Ml {N:Nat} {c:Code} (h:XR P n w0 env H c Q N):XQ n w0 env H .normal (Exit.then (Code.rounds P c Q N) Q):=h
theorem AeI {f:FuncId} {fn:Func} {c:Code} {vs:List Value} {l:HH} {m:Nat} {w:World} {R:Value->GH->Prop} (hf:P.funcs[f]? = some fn) (hb:fn.body=some c) (hm:fn.ntmps=m) (hsz:Nat.ble vs.length m=true) (hl:LiveA vs l) (h:XW P m w0 l H c (bodyPost P fn (Ic w0 R))) (hs:St w0 H w):Calls P f vs.toArray w (Ic w0 R):=by
 refine calls_of_wp hf hb (h _ w ⟨?_,rfl,?_⟩ hs)
 .have:=Nat.le_of_ble_eq_true hsz
  simp only[Array.size_append,Array.size_replicate,hm,List.size_toArray]
  omega
 .intro t v ht
  have h1:vs.toArray[t]? = some v:=by rw[List.getElem?_toArray];exact hl.get t v ht
  have hlt:=(Array.getElem?_eq_some_iff.1 h1).1
  simp only[Array.getD_eq_getD_getElem?]
  rw[Array.getElem?_append_left hlt,h1]
  rfl
theorem Yp {o:Oper} {f:FuncId} {fn:Func} {c:Code} {vs:List Value} {l:HH} {m:Nat} {R:Value->GH->Prop} (hrun:∀ a w,AgV env a->(execOp a.eval o).run P w=.ok (.enter f vs.toArray) w) (hf:P.funcs[f]? = some fn) (hb:fn.body=some c) (hm:fn.ntmps=m) (hsz:Nat.ble vs.length m=true) (hl:LiveA vs l) (h:XW P m w0 l H c (bodyPost P fn (Ic w0 R))):OT P w0 env H o R:=by
 intro a w ha hs
 unfold Oper.wp
 rw[hrun a w ha,Oper.upon_enter]
 refine Calls.mono (AeI hf hb hm hsz hl h hs) ?_
 rintro e w' ⟨v,F,rfl,hst,hR⟩
 exact⟨v,F,rfl,hst,hR⟩
theorem AhP {d:Option Nat} {f:FuncId} {fn:Func} {c:Code} {vs:List Value} {l:HH} {m:Nat} {R:Value->GH->Prop} {args:Array Operand} {ts:Array TypeId} (hk:G7 P f) (hargs:Ui env args.toList=some vs) (hf:P.funcs[f]? = some fn) (hb:fn.body=some c) (hm:fn.ntmps=m) (hsz:Nat.ble vs.length m=true) (hl:LiveA vs l) (h:XW P m w0 l H c (bodyPost P fn (Ic w0 R))):OT P w0 env H ⟨d,.call ⟨.value (.func f),args,ts⟩,ty,pos,af,g⟩ R:=by
 refine Yp (fun a w ha=>?_) hf hb hm hsz hl h
 cases d with
 | some d=>exact RL hk hargs a w ha
 | none=>
  have hm:args.map a.eval=vs.toArray:=Array.toList_inj.1 (by simpa using La ha _ _ hargs)
  simp only[execOp,resolve,Sem.run_bind,Act.eval,Deferred.ofValue,Sem.run_pure,Result.andThen_ok,invoke,hm]
  simpa using Ow hk vs.toArray w
theorem UL {d:Option Nat} {f:FuncId} {fn:Func} {c:Code} {x:Operand} {first vs cap:List Value} {l:HH} {m:Nat} {R:Value->GH->Prop} {args:Array Operand} {ts:Array TypeId} (hx:ev env x=some (.func (.func f) first.toArray cap.toArray)) (hk:G7 P f) (hargs:Ui env args.toList=some vs) (hf:P.funcs[f]? = some fn) (hb:fn.body=some c) (hm:fn.ntmps=m) (hsz:Nat.ble (first++vs++cap).length m=true) (hl:LiveA (first++vs++cap) l) (h:XW P m w0 l H c (bodyPost P fn (Ic w0 R))):OT P w0 env H ⟨d,.call ⟨.value x,args,ts⟩,ty,pos,af,g⟩ R:=by
 refine Yp (fun a w ha=>?_) hf hb hm hsz hl h
 have hm:args.map a.eval=vs.toArray:=Array.toList_inj.1 (by simpa using La ha _ _ hargs)
 simp only[execOp,resolve,Sem.run_bind,ha.ev hx,Deferred.ofValue,Sem.run_pure,Result.andThen_ok,invoke,hm]
 have:=Ow hk (first++vs++cap).toArray w
 simpa using this
theorem xoR {d:Nat} {op:Op} (hd:Nat.blt d n=true) (hw:Wt ops env g) (h:OT P w0 env H ⟨some d,op,ty,pos,af,g⟩ (fun v H'=>XO P n w0 ((d,v)::env) H' ops rest Q)):XO P n w0 env H ops (⟨some d,op,ty,pos,af,g⟩::rest) Q:=
 xo hd hw h fun _ _ hr=>hr
inductive ResV (P:Program) (env:HH) (H:GH):List ResultVar->List Value->Prop
 | nil:ResV P env H [] []
 | tmp {t:Nat} {v:Value} {l:List ResultVar} {vs:List Value} (h:lk t env=some v) (k:ResV P env H l vs):ResV P env H (.tmp t::l) (v::vs)
 | cell {t b s:Nat} {ty T:TypeId} {F:Nat->Value} {l:List ResultVar} {vs:List Value} (h:lk t env=some (.pointer (some ⟨b,0,none⟩))) (ht:TyS P ty s true) (hm:(b,BK s F T)∈H) (k:ResV P env H l vs):ResV P env H (.cell t ty::l) (AG s F::vs)
 | BB {t b q:Nat} {ty T:TypeId} {v:Value} {l:List ResultVar} {vs:List Value} (h:lk t env=some (.pointer (some ⟨b,0,none⟩))) (ht:TyS P ty q false) (hm:(b,BK 1 (fun _=>v) T)∈H) (k:ResV P env H l vs):ResV P env H (.cell t ty::l) (v::vs)
theorem ResV.run {l:List ResultVar} {vs:List Value} (h:ResV P env H l vs) {a:Act} (ha:AgV env a) {w:World} (hs:St w0 H w) :
  (l.mapM (m:=Sem) fun | .tmp t=>pure (a.tmps.getD t undef) | .cell b t=>do loadVar t (<- asAddr (a.tmps.getD b undef))).run P w=.ok vs w:=by
 induction h with
 | nil=>simp
 | @tmp t v l vs h k ih=>
  simp[ha t v h,ih,-Array.getD_eq_getD_getElem?]
 | @cell t b s ty T F l vs h ht hm k ih=>
  have hlo:=run_loadCells (P:=P) w ⟨b,0,none⟩ s F (fun j hj=>by rw[Addr.add_lit,Nat.zero_add];exact Kc (hs.own _ _ hm) hj)
  have hv:(loadVar ty ⟨b,0,none⟩).run P w=.ok (AG s F) w:=by
   simp[loadVar,ht.isAgg,ht.sizeOf,hlo,AG,CV]
  have hA:(asAddr (a.tmps.getD t undef)).run P w=.ok ⟨b,0,none⟩ w:=by rw[ha t _ h];rfl
  simp[hA,hv,ih,-Array.getD_eq_getD_getElem?]
 | @BB t b q ty T v l vs h ht hm k ih=>
  have hc:=Kc (hs.own _ _ hm) (show 0<1 by omega)
  have hv:(loadVar ty ⟨b,0,none⟩).run P w=.ok v w:=by
   simp[loadVar,ht.isAgg,hc]
  have hA:(asAddr (a.tmps.getD t undef)).run P w=.ok ⟨b,0,none⟩ w:=by rw[ha t _ h];rfl
  simp[hA,hv,ih,-Array.getD_eq_getD_getElem?]
def Ai4:List Value->Value
 | [v]=>v
 | l=>.tuple l.toArray
theorem In {fn:Func} {w:World} {G:Value->GH->Prop} {e:Exit} (he:e=.ret∨e=.normal) {l:List ResultVar} {vs:List Value} {v:Value} (hr:fn.results=l.toArray) (h:ResV P env H l vs) (hv:Ai4 vs=v) (F:GH) (hF:∀ w',St w H w'->St w F w') (hG:G v F):XQ n w env H e (bodyPost P fn (Ic w G)):=by
 intro a w' ha hs
 have hrun:(results fn a.tmps).run P w' = .ok v w':=by
  have h1:=h.run ha.get hs
  simp only[results,hr,List.mapM_toArray]
  subst hv
  simp[-Array.getD_eq_getD_getElem?]
  refine Eq.trans (congrArg (fun r=>Result.andThen r fun a w'=>Result.ok (if h:a.length=1 then a[0] else Value.tuple a.toArray) w') h1) ?_
  match vs with
  | []=>rfl
  | [v]=>rfl
  | v::u::r=>rfl
 rcases he with rfl | rfl <;> exact⟨ha.defers,_,hrun,_,F,rfl,hF w' hs,hG⟩
end
end Go.E
namespace Go.E
open Go
def cat:List GH->GH
 | []=>[]
 | S::L=>S++cat L
theorem Y3 {L L':List GH} (h:L.Perm L'):(cat L).Perm (cat L'):=by
 induction h with
 | nil=>exact List.Perm.refl _
 | cons x h ih=>exact List.Perm.append_left x ih
 | swap x y l=>
  show(y++(x++cat l)).Perm (x++(y++cat l))
  rw[<- List.append_assoc,<- List.append_assoc]
  exact List.Perm.append_right _ List.perm_append_comm
 | trans h1 h2 E8 E7=>exact E8.trans E7
theorem Lz (L L':List GH):cat (L++L')=cat L++cat L':=by
 induction L with
 | nil=>rfl
 | cons x L ih=>show x++cat (L++L')=(x++cat L)++cat L';rw[ih,List.append_assoc]
theorem PF (L:List GH):(List.range L.length).map (fun i=>L.getD i [])=L:=by
 apply List.ext_getElem?
 intro i
 by_cases h:i<L.length
 .simp[h]
 .simp[h]
theorem aR {w0 w:World} (σ:List Nat) (L:List GH) (h:List.isPerm σ (List.range L.length)=true) (hs:St w0 (cat L) w):St w0 (cat (σ.map fun i=>L.getD i [])) w:=by
 refine hs.perm ?_
 have h1:=(List.isPerm_iff.1 h).map (fun i=>L.getD i [])
 rw[PF] at h1
 exact Y3 h1.symm
theorem St.permJ {w0 w:World} (σ:List Nat) (L:List GH) (hs:St w0 (cat L) w) (h:List.isPerm σ (List.range L.length)=true:=by kernel_rfl):St w0 (cat (σ.map fun i=>L.getD i [])) w:=aR σ L h hs
def Has (w:World) (C:GH):Prop:=(∀ b o,(b,o)∈C->w.heap[b]? = some o)/\(keys C).Nodup
theorem St.has {w0 w:World} {C R:GH} (h:St w0 (C++R) w):Has w C:=by
 refine⟨fun b o hm=>h.own b o (List.mem_append_left _ hm),?_⟩
 have:=h.nd
 rw[keys_append] at this
 exact(List.nodup_append.1 this).1
theorem St.hasC {w0 w:World} {Cs Rs:List GH} (h:St w0 (cat (Cs++Rs)) w):Has w (cat Cs):=by
 rw[Lz] at h;exact h.has
theorem Has.st {w w':World} {C:GH} (h:Has w C) (hs:St w [] w'):St w C w':=by
 have hk:∀ k,k<w.heap.size->w'.heap[k]? = w.heap[k]?:=fun k hk=>hs.keep k hk Ad
 refine⟨hs.os,hs.tape,hs.out,hs.size,fun b o hm=>?_,h.2,fun k hlt _=>hk k hlt⟩
 have:=h.1 b o hm
 rw[hk b (Array.getElem?_eq_some_iff.1 this).1];exact this
section
variable {P:Program} {n:Nat} {w0:World} {env:HH} {H:GH} {Q:Exit->Act->World->Prop} {ops:Array Oper} {rest:List Oper}
variable {ty:TypeId} {pos:String} {af:Array Edge} {g:Option (Nat×Bool)}
theorem Agx {C:GH} {c:Code} (h:Has w0 C) (k:XW P n w0 env C c Q):XW P n w0 env [] c Q:=fun a w ha hs=>k a w ha (h.st hs)
def IF (G:Value->List GH->Prop):Value->GH->Prop:=fun v F=>∃ Ls,F=cat Ls/\G v Ls
theorem Ady {Cs Rs:List GH} {o:Oper} {f:FuncId} {vs:List Value} {G:World->Value->List GH->Prop} (hrun:∀ a w,AgV env a->(execOp a.eval o).run P w=.ok (.enter f vs.toArray) w) (h:∀ w,St w0 (cat (Cs++Rs)) w->Con P f vs.toArray w (IF (G w))) (hcov:∀ w v Ls,G w v Ls->Cov w (cat Cs) (cat Ls)) :
  OT P w0 env (cat (Cs++Rs)) o (fun v H'=>∃ w Ls,H'=cat (Ls++Rs)/\w0.heap.size<=w.heap.size/\G w v Ls):=by
 intro a w ha hs
 unfold Oper.wp
 rw[hrun a w ha,Oper.upon_enter]
 refine Calls.mono (h w hs) ?_
 rintro e w' ⟨v,F,rfl,hst,Ls,rfl,hG⟩
 have hc:=hcov w v Ls hG
 refine⟨v,cat (Ls++Rs),rfl,?_,w,Ls,rfl,hs.size,hG⟩
 rw[Lz] at hs ⊢
 have hnd:=hs.nd
 simp only[keys_append,List.nodup_append] at hnd
 refine hs.trans hst ?_ ?_ ?_ ?_
 .simp only[keys_append,List.nodup_append]
  refine⟨hst.nd,hnd.2.1,?_⟩
  intro a ha b hb e
  subst e
  rcases hc.1 a ha with h1 | h1
  .exact hnd.2.2 a h1 a hb rfl
  .have:=hs.klt (b:=a) (by simp[hb])
   omega
 .intro b o hm
  rcases List.mem_append.1 hm with hm | hm
  .exact .inl hm
  .refine .inr ⟨List.mem_append_right _ hm,fun hb=>?_⟩
   rcases hc.1 b hb with h1 | h1
   .exact hnd.2.2 b h1 b (K0 hm) rfl
   .have:=hs.klt (b:=b) (by simp[K0 hm])
    omega
 .intro b hb _
  simp[hb]
 .intro b hb _
  simp only[keys_append,List.mem_append] at hb ⊢
  exact hb.imp (hc.2 b) id
theorem GC {Cs Rs:List GH} {d:Nat} {f:FuncId} {args:Array Operand} {ts:Array TypeId} {vs:List Value} {G:World->Value->List GH->Prop} (hk:G7 P f) (hargs:Ui env args.toList=some vs) (h:∀ w,St w0 (cat (Cs++Rs)) w->Con P f vs.toArray w (IF (G w))) (hcov:∀ w v Ls,G w v Ls->Cov w (cat Cs) (cat Ls)) :
  OT P w0 env (cat (Cs++Rs)) ⟨some d,.call ⟨.value (.func f),args,ts⟩,ty,pos,af,g⟩ (fun v H'=>∃ w Ls,H'=cat (Ls++Rs)/\w0.heap.size<=w.heap.size/\G w v Ls):=
 Ady (RL hk hargs) h hcov
def cl (l:List Value):Nat->Value:=fun i=>l.getD i undef
variable {d:Option Nat} {t yt:TypeId} {x y:Operand} {b o N s:Nat} {T:TypeId} {l l':List Value}
theorem AhR {H':GH} {v:Value} (hx:ev env x=some (.pointer (some ⟨b,o,none⟩))) (hy:ev env y=some v) (ht:TyS P t 1 false) (h1:v.oneCell'=true) (hm:(b,BK N (cl l) T)∈H) (hN:l.length=N) (ho:o<N) (hl:l.set o v=l') (hu:Upd H b (BK N (cl l') T) H'):OT P w0 env H ⟨none,.store t x y,ty,pos,af,g⟩ (Is undef H'):=
 Acb hx hy ht h1 hm ho (by
  rw[Rm (g:=cl l') (fun i hi=>?_)]
  .exact hu
  .subst hl
   simp only[upd,cl,List.getD_eq_getElem?_getD,List.getElem?_set]
   by_cases h:i=o
   .subst h;rw[Ae rfl,Ae rfl,Ae Aa];rfl
   .rw[Af h,Af (fun e=>h e.symm)])
theorem AdE {H':GH} {f:Nat->Value} (hx:ev env x=some (.pointer (some ⟨b,o,none⟩))) (hy:ev env y=some (AG s f)) (ht:TyS P t s true) (h1:∀ i,i<s->(f i).oneCell'=true) (hm:(b,BK N (cl l) T)∈H) (ho:o+s<=N) (hl:∀ i,i<N->J9 (cl l) o s f i=cl l' i) (hu:Upd H b (BK N (cl l') T) H'):OT P w0 env H ⟨none,.store t x y,ty,pos,af,g⟩ (Is undef H'):=
 AaW hx hy ht h1 hm ho (by rw[Rm (g:=cl l') hl];exact hu)
end
end Go.E
namespace Go.E
open Go
section
variable {P:Program} {n:Nat} {w0:World} {env:HH} {H:GH} {Q:Exit->Act->World->Prop} {ops:Array Oper} {rest:List Oper}
theorem aM {w0 w:World} (L1 L2:List GH) (S N:GH) (h:St w0 (cat (L1++(S::N::L2))) w):St w0 (cat (L1++((S++N)::L2))) w:=by
 rw[Lz] at h ⊢
 show St w0 (cat L1++((S++N)++cat L2)) w
 rw[List.append_assoc];exact h
theorem Cov.more {w0:World} {A B N:GH} (h:Cov w0 A B) (k:Cov w0 [] N):Cov w0 A (B++N):=by
 have:=h.app k
 rwa[List.append_nil] at this
theorem aC {w0:World} {N M:GH} (h:Cov w0 [] N) (k:Cov w0 [] M):Cov w0 [] (N++M):=h.app k
theorem Cov.nil {w0:World}:Cov w0 [] []:=Cov.refl _
theorem OJ.left {α:Type} {T:TypeId} {s:Nat} {c:α->Nat->Value} {B N:GH} {v:Value} {l:List α} (h:OJ T s c B v l):OJ T s c (B++N) v l:=h.mono fun _ hx=>List.mem_append_left _ hx
theorem OJ.right {α:Type} {T:TypeId} {s:Nat} {c:α->Nat->Value} {B N:GH} {v:Value} {l:List α} (h:OJ T s c N v l):OJ T s c (B++N) v l:=h.mono fun _ hx=>List.mem_append_right _ hx
variable {ty:TypeId} {pos:String} {af:Array Edge} {g:Option (Nat×Bool)} {d:Option Nat} {x:Operand}
theorem HA {e:TypeId} {k:Nat} {f:Nat->Value} (l:List Value) (hx:ev env x=some (AG k f)) (hf:∀ i,i<k->f i=cl l i):OT P w0 env H ⟨d,.box e x,ty,pos,af,g⟩ (VT w0 (BK k (cl l) e) H):=by
 rw[Rn hf] at hx;exact He hx
theorem G1 {e:TypeId} {k:Nat} {f:Nat->Value} (l:List Value) (hz:ZeroT P e (AG k f)) (hf:∀ i,i<k->f i=cl l i):OT P w0 env H ⟨d,.alloc e,ty,pos,af,g⟩ (VT w0 (BK k (cl l) e) H):=by
 rw[Rn hf] at hz;exact H8 hz rfl
end
end Go.E
namespace Go.E
open Go
section
variable {P:Program} {w0:World} {env:HH} {H:GH} {ty:TypeId} {pos:String} {af:Array Edge} {g:Option (Nat×Bool)} {d:Option Nat} {t:TypeId} {N:Nat}
theorem H7 {ps:Array (Nat×Operand)} {zf f:Nat->Value} (l:List Value) (hok:KA P t) (hz:ZeroT P t (AG N zf)) (hf:Fill P t N env ps.toList zf f) (hl:∀ i,i<N->f i=cl l i):OT P w0 env H ⟨d,.build t ps,ty,pos,af,g⟩ (Is (AG N (cl l)) H):=by
 rw[<- Rn hl];exact Ht hok hz hf
end
end Go.E
namespace Go.E
open Go
theorem SL.nilOr {α:Type} {w:World} {s:Nat} {c:α->Nat->Value} {v:Value} {l:List α} (h:SL w s c v l):((K7 v=some true/\∀ e,Il (.slice e) v=true)/\l=[])∨(K7 v=some false/\∀ e,Il (.slice e) v=true):=by
 obtain⟨p,cp,rfl,h2,h3,h4,h5⟩:=h
 cases p with
 | none=>exact .inl ⟨⟨rfl,fun _=>rfl⟩,List.length_eq_zero_iff.1 (by have:=h4 rfl;omega)⟩
 | some a=>exact .inr ⟨rfl,fun _=>rfl⟩
theorem OJ.nilOr {α:Type} {T:TypeId} {s:Nat} {c:α->Nat->Value} {B:GH} {v:Value} {l:List α} (h:OJ T s c B v l):((K7 v=some true/\∀ e,Il (.slice e) v=true)/\l=[])∨(K7 v=some false/\∀ e,Il (.slice e) v=true):=by
 rcases h with ⟨rfl,rfl⟩ | ⟨b,o,cp,N,F,h1,rfl,h2⟩
 .exact .inl ⟨⟨rfl,fun _=>rfl⟩,rfl⟩
 .exact .inr ⟨rfl,fun _=>rfl⟩
end Go.E
namespace Go.E
open Go
section
variable {P:Program} {n:Nat} {w0:World} {env:HH} {H:GH} {Q:Exit->Act->World->Prop} {ops:Array Oper} {rest:List Oper}
variable {ty:TypeId} {pos:String} {af:Array Edge} {g:Option (Nat×Bool)} {d:Option Nat} {t yt:TypeId} {x y:Operand} {i j:Int} {k':IntKind}
theorem AgP {ts:Array TypeId} {args:Array Operand} (hargs:Ui env args.toList=some [.int .i64 i,.int .i64 j]) :
  OT P w0 env H ⟨d,.call ⟨.builtin .max,args,ts⟩,ty,pos,af,g⟩ (Is (.int .i64 (if i<j then j else i)) H):=
 aD fun a w ha=>by
  have e1:args.map a.eval=#[.int .i64 i,.int .i64 j]:=Array.toList_inj.1 (by simpa using La ha _ _ hargs)
  simp[execOp,resolve,invoke,builtin,e1,Builtin.max_,Builtin.max2,List.foldlM]
end
end Go.E
namespace Go.E
open Go
def UE (ops:Array Oper):Nat->Nat->List Nat
 | 0,i=>Sg ops i
 | f+1,i=>Sg ops i++(Sg ops i).flatMap (UE ops f)
section
variable {P:Program} {n:Nat} {w0:World} {ops:Array Oper} {KS:List Nat} {bX env:HH} {dn:List Nat} {H RS:GH} {Q:Exit->Act->World->Prop}
theorem OA {listed:Array Bool} (hd:∀ j,listed.getD j false=true->∀ k∈Sg ops j,listed.getD k false=true):∀ f i,(∀ k∈Sg ops i,listed.getD k false=true)->∀ k∈UE ops f i,listed.getD k false=true
 | 0,_,h,k,hk=>h k hk
 | f+1,i,h,k,hk=>by
  rcases List.mem_append.1 hk with hk | hk
  .exact h k hk
  .obtain⟨j,hj,hk⟩:=List.mem_flatMap.1 hk
   exact OA hd f j (fun q hq=>hd j (h j hj) q hq) k hk
def QX (p:Rec):Rec:=⟨p.i,p.l,[],p.v⟩
theorem RU (dl:List Rec):(dl.map QX).map (·.i)=dl.map (·.i):=by simp[QX]
theorem Vt {dl:List Rec} (h:TQ ops bX dl env):TQ ops bX (dl.map QX) env:=by
 intro s v hs
 rcases h s v hs with ⟨p,hp,h1,h2⟩ | ⟨h1,h2⟩
 .exact .inl ⟨QX p,List.mem_map_of_mem hp,h1,h2⟩
 .refine .inr ⟨fun p hp=>?_,h2⟩
  obtain⟨q,hq,rfl⟩:=List.mem_map.1 hp
  exact h1 q hq
theorem XU (hok:If n ops=true) (f i:Nat) {o:Oper} (l:HH) (ho:ops[i]? = some o) (hf:Mb ops dn=[i]) (hcl:dn.all (UE ops f i).contains=true) (hl:Live env l) (hs:HO ops dn i (l.map (·.1))=true) (hw:Wt ops l o.guard) {R:Value->GH->Prop} (ht:OT P w0 l H o R) (k:∀ v H',R v H'->(∀ k∈keys H',k∈KS∨w0.heap.size<=k)/\XD P n w0 ops KS bX (i::dn) (match o.dst with | some d=>(d,v)::env | none=>env) H' [] Q):XD P n w0 ops KS bX dn env H RS Q:=by
 intro a0 dl kp hdn hnd he hrs
 refine Lk hok (by rw[hdn];exact hnd) ?_ ?_
 .intro a w listed hr hinv
  exfalso
  have hi:i∈Mb ops dn:=by rw[hf];exact List.mem_singleton.2 rfl
  obtain⟨h1,h2⟩:=List.mem_filter.1 hi
  have:=J7 hok hinv.lsize hr i (List.mem_range.1 h1)
  obtain⟨p,hp,e⟩:=hinv.inn i this
  simp only[Bool.and_eq_true,Bool.not_eq_true',List.contains_eq_mem,decide_eq_false_iff_not] at h2
  exact h2.1 (by rw[<- hdn];exact List.mem_map.2 ⟨p,hp,e⟩)
 .intro fuel listed a w j hinv hr hni
  have hj:=Lr hinv.lsize hdn hinv.inn hr hni
  rw[hf] at hj
  obtain rfl:=List.mem_singleton.1 hj
  obtain⟨hlt,sk,haft⟩:=(JG hinv.lsize).1 hr
  have hagv:=hinv.agv sk haft (Oq kp he hdn hl hs)
  have hdst:HK ops j=o.dst:=by simp[HK,ho]
  have hall:∀ p∈dl,listed.getD p.i false=true:=by
   intro p hp
   have h1:=List.all_eq_true.1 hcl p.i (by rw[<- hdn];exact List.mem_map.2 ⟨p,hp,rfl⟩)
   simp only[List.contains_eq_mem,decide_eq_true_eq] at h1
   exact OA hinv.down f j haft _ h1
  unfold wpOp
  simp only[ho]
  rw[Ae (hw.wanted hagv)]
  refine .inl (I3 ?_ (fun _ _ _ h=>h.elim) (ht a w hagv hinv.st))
  rintro a' w' ⟨v,H',rfl,hst,hR⟩
  obtain⟨k3,k2⟩:=k v H' hR
  have hlt':j<listed.size:=by rw[hinv.lsize];exact hlt
  have DB:∀ p∈dl.map QX,p.i≠j:=by
   intro p hp
   obtain⟨q,hq,rfl⟩:=List.mem_map.1 hp
   exact hni q hq
  have hni':j∉(dl.map QX).map (·.i):=by
   simp only[List.mem_map,not_exists,not_and]
   rintro p ⟨q,hq,rfl⟩
   exact hni q hq
  have p5:Inv P n ops w0 KS a0 (⟨j,l,[],v⟩::dl.map QX) H' fuel (listed.setIfInBounds j true) (a.put o.dst v) w':=by
   rw[<- hdst]
   refine⟨by simpa using hinv.lsize,?_,?_,?_,?_,by rw[RP];exact hinv.size,by rw[OE];exact hinv.defers,hst,k3,?_,?_⟩
   .intro q hq
    rw[HJ hlt'] at hq
    by_cases e:q=j
    .exact⟨⟨j,l,[],v⟩,List.mem_cons_self ..,e.symm⟩
    .rw[Af e] at hq
     obtain⟨p,hp,e⟩:=hinv.inn q hq
     exact⟨QX p,List.mem_cons_of_mem _ (List.mem_map.2 ⟨p,hp,rfl⟩),e⟩
   .intro q hq lL
    exfalso
    rw[HJ hlt'] at lL
    rcases List.mem_cons.1 hq with rfl | hq
    .simp at lL
    .obtain⟨p,hp,rfl⟩:=List.mem_map.1 hq
     have pP:(if p.i=j then true else listed.getD p.i false)=false:=lL
     rw[Af (hni p hp),hall p hp] at pP;cases pP
   .intro q hq pP s hs'
    rcases List.mem_cons.1 hq with rfl | hq
    .have hs'':HK ops j=some s:=hs'
     rw[hs'',LB (by rw[hinv.size];exact RO hok hs'')]
    .obtain⟨p,hp,rfl⟩:=List.mem_map.1 hq
     have hne:=hni p hp
     rw[LP (fun hh=>hne (Oy hok hs' hh))]
     exact hinv.done p hp (hall p hp) s hs'
   .intro s hs'
    have hne:HK ops j≠some s:=fun hh=>by
     have:=hs' j hh
     rw[HJ hlt',Ae rfl] at this
     cases this
    rw[LP hne]
    refine hinv.rest s fun q hq=>?_
    have:=hs' q hq
    rw[HJ hlt'] at this
    split at this
    .cases this
    .exact this
   .intro q hq k' hk
    rw[HJ hlt'] at hq ⊢
    by_cases e:k'=j
    .rw[Ae e]
    .rw[Af e]
     by_cases e2:q=j
     .subst e2;exact haft k' hk
     .rw[Af e2] at hq;exact hinv.down q hq k' hk
   .rw[O2 hlt' sk _ hlt]
    have:=hinv.fuel
    omega
  have henv:=OX (p:=⟨j,l,[],v⟩) hok (Vt he) hni'
  refine k2 a0 (⟨j,l,[],v⟩::dl.map QX) kp (by simp only[List.map_cons,RU,hdn]) (List.nodup_cons.2 ⟨by rw[<- hdn,<- RU];exact hni',hnd⟩) ?_ ?_ _ _ _ _ p5
  .cases hd:o.dst with
   | none=>exact henv.2 (by show HK ops j=none;rw[hdst,hd])
   | some d=>exact henv.1 d (by show HK ops j=some d;rw[hdst,hd])
  .intro p hp x hx
   rcases List.mem_cons.1 hp with rfl | hp
   .cases hx
   .obtain⟨q,hq,rfl⟩:=List.mem_map.1 hp
    cases hx
end
end Go.E
namespace Go.E
open Go
section
variable {P:Program} {n:Nat} {w0:World} {ops:Array Oper} {KS:List Nat} {bX env:HH} {dn:List Nat} {H RS:GH} {Q:Exit->Act->World->Prop}
theorem Lh (hok:If n ops=true) (f i:Nat) {o:Oper} {d:Nat} (l:HH) (ho:ops[i]? = some o) (hd:o.dst=some d) (hf:Mb ops dn=[i]) (hcl:dn.all (UE ops f i).contains=true) (hl:Live env l) (hs:HO ops dn i (l.map (·.1))=true) (hw:Wt ops l o.guard) {R:Value->GH->Prop} (ht:OT P w0 l H o R) (k:∀ v H',R v H'->(∀ k∈keys H',k∈KS∨w0.heap.size<=k)/\XD P n w0 ops KS bX (i::dn) ((d,v)::env) H' [] Q):XD P n w0 ops KS bX dn env H RS Q:=
 XU hok f i l ho hf hcl hl hs hw ht (fun v H' h=>by rw[hd];exact k v H' h)
theorem HF (hok:If n ops=true) (f i:Nat) {o:Oper} (l:HH) (ho:ops[i]? = some o) (hd:o.dst=none) (hf:Mb ops dn=[i]) (hcl:dn.all (UE ops f i).contains=true) (hl:Live env l) (hs:HO ops dn i (l.map (·.1))=true) (hw:Wt ops l o.guard) {R:Value->GH->Prop} (ht:OT P w0 l H o R) (k:∀ v H',R v H'->(∀ k∈keys H',k∈KS∨w0.heap.size<=k)/\XD P n w0 ops KS bX (i::dn) env H' [] Q):XD P n w0 ops KS bX dn env H RS Q:=
 XU hok f i l ho hf hcl hl hs hw ht (fun v H' h=>by rw[hd];exact k v H' h)
def Ks (w0:World) (KS:List Nat) (H:GH):Prop:=∀ k∈keys H,k∈KS∨w0.heap.size<=k
theorem Ks.nil:Ks w0 KS []:=fun _ h=>by simp at h
theorem aE {b:Nat} {o:Obj} (hb:w0.heap.size<=b) (h:Ks w0 KS H):Ks w0 KS ((b,o)::H):=fun k hk=>by
 simp only[keys_cons,List.mem_cons] at hk
 exact hk.elim (fun e=>.inr (e▸hb)) (h k)
theorem aA {b:Nat} {o:Obj} (hb:b∈KS) (h:Ks w0 KS H):Ks w0 KS ((b,o)::H):=fun k hk=>by
 simp only[keys_cons,List.mem_cons] at hk
 exact hk.elim (fun e=>.inl (e▸hb)) (h k)
theorem aN {B:GH} (hc:Cov w0 [] B) (h:Ks w0 KS H):Ks w0 KS (B++H):=fun k hk=>by
 simp only[keys_append,List.mem_append] at hk
 exact hk.elim (fun e=>.inr (hc.fresh k e)) (h k)
theorem aB {B:GH} (hc:∀ k∈keys B,k∈KS) (h:Ks w0 KS H):Ks w0 KS (B++H):=fun k hk=>by
 simp only[keys_append,List.mem_append] at hk
 exact hk.elim (fun e=>.inl (hc k e)) (h k)
theorem aG {A B:GH} (hc:Cov w0 A B) (hA:∀ k∈keys A,k∈KS) (h:Ks w0 KS H):Ks w0 KS (B++H):=fun k hk=>by
 simp only[keys_append,List.mem_append] at hk
 exact hk.elim (fun e=>(hc.1 k e).imp (hA k) id) (h k)
theorem Ig {H':GH} (e:H=H') (h:XD P n w0 ops KS bX dn env H' RS Q):XD P n w0 ops KS bX dn env H RS Q:=e▸h
end
end Go.E
namespace Go.E
open Go
section
variable {P:Program} {n:Nat} {w0:World} {ops:Array Oper} {KS:List Nat} {bX env:HH} {dn:List Nat} {H RS:GH} {Q:Exit->Act->World->Prop}
theorem XD.more {RS':GH} (h:XD P n w0 ops KS bX dn env H RS' Q) (hs:∀ x∈RS,x∈RS'):XD P n w0 ops KS bX dn env H RS Q:=
 fun a0 dl h1 h2 h3 h4 h5=>h a0 dl h1 h2 h3 h4 fun p hp x hx=>hs x (h5 p hp x hx)
end
theorem bS:(∀ b:Bool,(true&&b)=b)/\(∀ b:Bool,(b&&true)=b)/\(∀ b:Bool,(false&&b)=false)/\(∀ b:Bool,(b&&false)=false)/\(∀ b:Bool,(b||true)=true)/\(∀ b:Bool,(true||b)=true)/\(∀ b:Bool,(b||false)=b) /\
  (∀ b:Bool,(false||b)=b)/\((!true)=false)/\((!false)=true)/\(∀ (b c:Bool),cond true b c=b)/\(∀ (b c:Bool),cond false b c=c):=by simp
end Go.E
namespace Go.E
open Go
section
variable {κ α:Type} (ke:κ->κ->Bool)
def Lj:List (κ×α)->κ->Option α
 | [],_=>none
 | p::d,k=>if ke k p.1 then some p.2 else Lj d k
def H5 (d:List (κ×α)) (k:κ) (z:α):α:=(Lj ke d k).getD z
def KZ (d:List (κ×α)) (k:κ):Bool:=(Lj ke d k).isSome
def IH:List (κ×α)->κ->α->List (κ×α)
 | [],k,v=>[(k,v)]
 | p::d,k,v=>if ke k p.1 then(p.1,v)::d else p::IH d k v
def AdX (d:List (κ×α)) (k:κ):List (κ×α):=d.filter fun p=>!ke k p.1
end
def HT (a b:Int):Bool:=a == b
abbrev kI:Int->Value:=fun x=>.int .i64 x
structure KeyT {κ:Type} (P:Program) (kt:TypeId) (ck:κ->Value) (ke:κ->κ->Bool):Prop where
 check:∀ (b:Bool) k w,(Instr.checkKey b 10000 kt (ck k)).run P w=.ok () w
 find:∀ k (es:List MapEntry) (ks:List κ) w,es.map (·.key)=ks.map ck->(Instr.findKey kt (ck k) es).run P w=.ok ((ks.findIdx? (ke k)).bind fun i=>(es[i]?).map fun e=>(i,e.val)) w
 stays:∀ a b w,ke a b=true->(Instr.keyThatStays (ck b) (ck a)).run P w=.ok (ck a) w
 same:∀ a b,ke a b=true->ck a=ck b
 eqv:∀ a b c,ke a b=true->ke a c=true->ke c b=true
 self:∀ a,ke a a=true
def MO {κ α:Type} (ck:κ->Value) (cv:α->Value) (ke:κ->κ->Bool) (d:List (κ×α)) (o:Obj):Prop:=
 ∃ es clock,o=.map es clock/\es.toList.map (fun e=>(e.key,e.val))=d.map (fun p=>(ck p.1,cv p.2))/\(∀ e∈es.toList,e.born<clock)/\(es.toList.map (·.born)).Nodup/\d.Pairwise fun p q=>ke q.1 p.1=false
def MJ {κ α:Type} (ck:κ->Value) (cv:α->Value) (ke:κ->κ->Bool) (B:GH) (v:Value) (d:List (κ×α)):Prop:=∃ b o,B=[(b,o)]/\v=.map (some b)/\MO ck cv ke d o
section
variable {κ α:Type} {ke:κ->κ->Bool}
theorem Wy {d:List (κ×α)} {k:κ} (h:(d.map (·.1)).findIdx? (ke k)=none):Lj ke d k=none/\(∀ v,IH ke d k v=d++[(k,v)])/\AdX ke d k=d/\∀ p∈d,ke k p.1=false:=by
 induction d with
 | nil=>exact⟨rfl,fun v=>rfl,rfl,by simp⟩
 | cons p d ih=>
  simp only[List.map_cons,List.findIdx?_cons] at h
  split at h
  .cases h
  .rename_i hk
   have hk':ke k p.1=false:=by simpa using hk
   obtain⟨h1,h2,h3,h4⟩:=ih (by simpa using h)
   refine⟨by simp[Lj,hk',h1],fun v=>by simp[IH,hk',h2 v],?_,?_⟩
   .unfold AdX at h3 ⊢
    rw[List.filter_cons,hk',h3];rfl
   .intro q hq
    rcases List.mem_cons.1 hq with rfl | hq
    .exact hk'
    .exact h4 q hq
theorem Tp {d:List (κ×α)} {k:κ} {i:Nat} (h:(d.map (·.1)).findIdx? (ke k)=some i):∃ hi:i<d.length,ke k d[i].1=true/\Lj ke d k=some d[i].2/\(∀ v,IH ke d k v=d.set i (d[i].1,v)) /\
  ((∀ p q:κ×α,ke k p.1=true->ke q.1 p.1=false->ke k q.1=false)->d.Pairwise (fun p q=>ke q.1 p.1=false)->AdX ke d k=d.eraseIdx i):=by
 induction d generalizing i with
 | nil=>simp at h
 | cons p d ih=>
  simp only[List.map_cons,List.findIdx?_cons] at h
  split at h
  .rename_i hk
   cases h
   refine⟨Ad,hk,by simp[Lj,hk],fun v=>by simp[IH,hk],fun he hp=>?_⟩
   simp only[List.eraseIdx_zero,List.tail_cons,AdX]
   rw[List.filter_cons,hk]
   simp only[Bool.not_true,Bool.false_eq_true,if_false]
   rw[List.filter_eq_self]
   intro q hq
   have:=he p q hk ((List.pairwise_cons.1 hp).1 q hq)
   simp[this]
  .rename_i hk
   have hk':ke k p.1=false:=by simpa using hk
   obtain⟨j,hj,rfl⟩:=Option.map_eq_some_iff.1 h
   obtain⟨h1,h2,h3,h4,h5⟩:=ih hj
   refine⟨by simp;omega,by simpa using h2,by simp[Lj,hk',h3],fun v=>by simp[IH,hk',h4 v],fun he hp=>?_⟩
   have:=h5 he (List.pairwise_cons.1 hp).2
   unfold AdX at this ⊢
   rw[List.filter_cons,hk',this];rfl
end
section
variable {κ α:Type} {P:Program} {kt et:TypeId} {ck:κ->Value} {cv:α->Value} {ke:κ->κ->Bool}
theorem KeyT.look (hk:KeyT P kt ck ke) {d:List (κ×α)} {es:Array MapEntry} (he:es.toList.map (fun e=>(e.key,e.val))=d.map (fun p=>(ck p.1,cv p.2))) (k:κ) (w:World) :
  (∃ i,(d.map (·.1)).findIdx? (ke k)=some i/\∃ (hi:i<d.length) (hj:i<es.size),es[i].key=ck d[i].1/\es[i].val=cv d[i].2/\(Instr.findKey kt (ck k) es.toList).run P w=.ok (some (i,es[i].val)) w) ∨
  ((d.map (·.1)).findIdx? (ke k)=none/\(Instr.findKey kt (ck k) es.toList).run P w=.ok none w):=by
 have hkeys:es.toList.map (·.key)=(d.map (·.1)).map ck:=by
  have:=congrArg (List.map Prod.fst) he
  simpa [List.map_map,Function.comp_def] using this
 have hl:es.size=d.length:=by simpa using congrArg List.length he
 have hf:=hk.find k es.toList (d.map (·.1)) w hkeys
 cases hi:(d.map (·.1)).findIdx? (ke k) with
 | none=>rw[hi] at hf;exact .inr ⟨rfl,hf⟩
 | some i=>
  obtain⟨h1,_⟩:=Tp hi
  have h2:i<es.size:=Aa
  have h3:es.toList[i]? = some es[i]:=by simp[h2]
  have h4:=congrArg (fun l=>l[i]?) he
  simp only[List.getElem?_map,h3,List.getElem?_eq_getElem h1,Option.map_some,Option.some.injEq,Prod.mk.injEq] at h4
  refine .inl ⟨i,rfl,h1,h2,h4.1,h4.2,?_⟩
  rw[hf,hi]
  simp[h2]
theorem MO.upd {d:List (κ×α)} {es:Array MapEntry} {clock i:Nat} {f:MapEntry->MapEntry} {v:α} (he:es.toList.map (fun e=>(e.key,e.val))=d.map (fun p=>(ck p.1,cv p.2))) (hb:∀ e∈es.toList,e.born<clock) (hn:(es.toList.map (·.born)).Nodup) (hp:d.Pairwise fun p q=>ke q.1 p.1=false) (hi:i<d.length) (hf:∀ e,(f e).born=e.born) (hj:i<es.size) (h1:(f es[i]).key=ck d[i].1) (h2:(f es[i]).val=cv v):MO ck cv ke (d.set i (d[i].1,v)) (.map (es.modify i f) clock):=by
 have hl:es.size=d.length:=by simpa using congrArg List.length he
 have hborn:(es.modify i f).toList.map (·.born)=es.toList.map (·.born):=by
  apply List.ext_getElem Ad
  intro n h3 h4
  simp only[Array.toList_modify,List.getElem_map,List.getElem_modify]
  split
  .rw[hf]
  .rfl
 refine⟨_,_,rfl,?_,?_,by rw[hborn];exact hn,?_⟩
 .apply List.ext_getElem (by simp[hl])
  intro n h3 h4
  have y7:n<es.size:=by simpa using h3
  have Fc:n<d.length:=Aa
  simp only[Array.toList_modify,List.getElem_map,List.getElem_modify,List.getElem_set,Array.getElem_toList]
  by_cases hin:i=n
  .subst hin
   simp only[Ae]
   rw[h1,h2]
  .rw[Af hin,Af hin]
   have:=congrArg (fun l=>l[n]?) he
   simp only[List.getElem?_map,Array.getElem?_toList,Array.getElem?_eq_getElem y7,List.getElem?_eq_getElem Fc,Option.map_some,Option.some.injEq] at this
   exact this
 .intro e hm
  have:e.born∈(es.modify i f).toList.map (·.born):=List.mem_map_of_mem hm
  rw[hborn] at this
  obtain⟨e',h3,h4⟩:=List.mem_map.1 this
  rw[<- h4];exact hb e' h3
 .rw[List.pairwise_iff_getElem] at hp ⊢
  intro a b ha hb' hab
  simp only[List.length_set] at ha hb'
  have:=hp a b ha hb' hab
  simp only[List.getElem_set]
  by_cases h3:i=a <;> by_cases h4:i=b <;> simp only[h3,h4,if_true,if_false] <;> first | (subst h3;subst h4;omega) | (subst h3;simp[h4];exact this) | (subst h4;simp[h3];exact this) | (simp[h3,h4];exact this) | skip
  all_goals (try (subst h3));(try (subst h4));simp_all
theorem MO.push {d:List (κ×α)} {es:Array MapEntry} {clock:Nat} {k:κ} {v:α} (he:es.toList.map (fun e=>(e.key,e.val))=d.map (fun p=>(ck p.1,cv p.2))) (hb:∀ e∈es.toList,e.born<clock) (hn:(es.toList.map (·.born)).Nodup) (hp:d.Pairwise fun p q=>ke q.1 p.1=false) (hk:∀ p∈d,ke k p.1=false):MO ck cv ke (d++[(k,v)]) (.map (es.push {key:=ck k,val:=cv v,born:=clock}) (clock+1)):=by
 refine⟨_,_,rfl,by simp[he],?_,?_,?_⟩
 .intro e hm
  simp only[Array.toList_push,List.mem_append,List.mem_singleton] at hm
  rcases hm with hm | rfl
  .have:=hb e hm;omega
  .exact Nat.lt_succ_self _
 .simp only[Array.toList_push,List.map_append,List.map_cons,List.map_nil]
  rw[List.nodup_append]
  refine⟨hn,Ad,fun a ha b hb'=>?_⟩
  obtain⟨e,h1,rfl⟩:=List.mem_map.1 ha
  simp only[List.mem_singleton] at hb'
  have:=hb e h1
  omega
 .rw[List.pairwise_append]
  refine⟨hp,Ad,fun p hp' q hq=>?_⟩
  simp only[List.mem_singleton] at hq
  subst hq
  exact hk p hp'
theorem Qu {α β:Type} (f:α->β):∀ (l:List α) (i:Nat),(l.eraseIdx i).map f=(l.map f).eraseIdx i
 | [],_=>rfl
 | _::_,0=>rfl
 | a::l,i+1=>by simp[List.eraseIdx_cons_succ,Qu f l i]
theorem MO.erase {d:List (κ×α)} {es:Array MapEntry} {clock i:Nat} (he:es.toList.map (fun e=>(e.key,e.val))=d.map (fun p=>(ck p.1,cv p.2))) (hb:∀ e∈es.toList,e.born<clock) (hn:(es.toList.map (·.born)).Nodup) (hp:d.Pairwise fun p q=>ke q.1 p.1=false):MO ck cv ke (d.eraseIdx i) (.map (es.eraseIdxIfInBounds i) clock):=by
 have e1:(es.eraseIdxIfInBounds i).toList=es.toList.eraseIdx i:=Ad
 refine⟨_,_,rfl,?_,?_,?_,?_⟩
 .rw[e1,Qu,he,Qu]
 .intro e hm
  rw[e1] at hm
  exact hb e (List.mem_of_mem_eraseIdx hm)
 .rw[e1,Qu]
  exact hn.sublist (List.eraseIdx_sublist _ _)
 .exact hp.sublist (List.eraseIdx_sublist _ _)
end
section
variable {κ α:Type} {P:Program} {n:Nat} {w0:World} {env:HH} {H R B:GH} {Q:Exit->Act->World->Prop} {ops:Array Oper} {rest:List Oper}
variable {d:Option Nat} {op:Op} {ty:TypeId} {pos:String} {af:Array Edge} {g:Option (Nat×Bool)}
variable {t kt et:TypeId} {x y u:Operand} {v:Value} {ck:κ->Value} {cv:α->Value} {ke:κ->κ->Bool} {m:List (κ×α)} {k:κ} {z e:α}
theorem Z7 {w:World} {b:Nat} {es:Array MapEntry} {clock:Nat} (hb:w.heap[b]? = some (.map es clock)):(getObj b).run P w=.ok (.map es clock) w:=by
 simp[getObj,Sem.run,hb]
theorem Adm {w:World} {b:Nat} {es:Array MapEntry} {clock:Nat} (o':Obj) (hb:w.heap[b]? = some (.map es clock)):(setObj b o').run P w=.ok () {w with heap:=w.heap.setIfInBounds b o'}:=by
 simp[setObj,Sem.run,hb]
theorem MJ.val (h:MJ ck cv ke B v m):∃ b,v=.map (some b):=let ⟨b,_,_,h,_⟩:=h;⟨b,h⟩
theorem MJ.one (h:MJ ck cv ke B v m):v.oneCell'=true:=by obtain⟨b,rfl⟩:=h.val;rfl
theorem AaY (_hk:KeyT P kt ck ke) (_hu:P.underlying t=some (.map kt et)) :
  OT P w0 env H ⟨d,.makeMap t none,ty,pos,af,g⟩ (fun v' H'=>∃ B',H'=B'++H/\Cov w0 [] B'/\MJ ck cv ke B' v' ([]:List (κ×α))):=
 OT.val fun a w ha hs=>by
  refine⟨.map (some w.heap.size),w.alloc (.map #[] 0),(w.heap.size,.map #[] 0)::H,by simp[execOp,Instr.makeMap,newObj,Sem.run],hs.alloc _,[(w.heap.size,.map #[] 0)],rfl,Cov.new hs.size,?_⟩
  exact⟨_,_,rfl,rfl,#[],0,rfl,rfl,Ad,Ad,List.Pairwise.nil⟩
theorem Yh (hk:KeyT P kt ck ke) (hu:P.underlying t=some (.map kt et)) (hz:ZeroT P et (cv z)) {b:Nat} {es:Array MapEntry} {clock:Nat} {w:World} (hb:w.heap[b]? = some (.map es clock)) (he:es.toList.map (fun e=>(e.key,e.val))=m.map (fun p=>(ck p.1,cv p.2))) (ok:Bool) :
  (Instr.lookup t (.map (some b)) (ck k) ok).run P w=.ok (if ok then .tuple #[cv (H5 ke m k z),.bool (KZ ke m k)] else cv (H5 ke m k z)) w:=by
 simp only[Instr.lookup,Sem.run_bind,run_underlying hu,Result.andThen_ok,Z7 hb,hk.check]
 rcases hk.look he k w with ⟨i,hi,h1,h2,h3,h4,h5⟩ | ⟨hi,h5⟩
 .obtain⟨_,_,hf,_⟩:=Tp hi
  simp only[h5,Sem.run_bind,Result.andThen_ok,Sem.run_pure,H5,KZ,hf,Option.getD_some,Option.isSome_some,h4]
 .obtain⟨hf,_⟩:=Wy hi
  simp only[h5,Sem.run_bind,Result.andThen_ok,Sem.run_pure,H5,KZ,hf,Option.getD_none,Option.isSome_none,hz.run]
theorem Ai8 (hk:KeyT P kt ck ke) (hu:P.underlying t=some (.map kt et)) (hz:ZeroT P et (cv z)) (hx:ev env x=some v) (hy:ev env y=some (ck k)) (hJ:MJ ck cv ke B v m) (hB:∀ q∈B,q∈H) :
  OT P w0 env H ⟨d,.lookup t x y false,ty,pos,af,g⟩ (Is (cv (H5 ke m k z)) H):=
 OT.val fun a w ha hs=>by
  obtain⟨b,o,rfl,rfl,es,clock,rfl,he,_⟩:=hJ
  have hb:=hs.own b _ (hB _ (List.mem_singleton.2 rfl))
  exact⟨_,w,H,by simp[execOp,ha.ev hx,ha.ev hy,Yh hk hu hz hb he],hs,rfl,rfl⟩
theorem AgQ (hk:KeyT P kt ck ke) (hu:P.underlying t=some (.map kt et)) (hz:ZeroT P et (cv z)) (hx:ev env x=some v) (hy:ev env y=some (ck k)) (hJ:MJ ck cv ke B v m) (hB:∀ q∈B,q∈H) :
  OT P w0 env H ⟨d,.lookup t x y true,ty,pos,af,g⟩ (Is (.tuple #[cv (H5 ke m k z),.bool (KZ ke m k)]) H):=
 OT.val fun a w ha hs=>by
  obtain⟨b,o,rfl,rfl,es,clock,rfl,he,_⟩:=hJ
  have hb:=hs.own b _ (hB _ (List.mem_singleton.2 rfl))
  exact⟨_,w,H,by simp[execOp,ha.ev hx,ha.ev hy,Yh hk hu hz hb he],hs,rfl,rfl⟩
theorem St.map {w:World} {b:Nat} {o o':Obj} (hs:St w0 ([(b,o)]++R) w):St w0 ([(b,o')]++R) {w with heap:=w.heap.setIfInBounds b o'}:=by
 have hb:=hs.own b o Ad
 have hlt:b<w.heap.size:=(Array.getElem?_eq_some_iff.1 hb).1
 exact hs.upd (.here b o o' R) (by simp[hlt]) (fun k hk=>by simp[Ne.symm hk]) rfl rfl rfl Ad
theorem Adq (hk:KeyT P kt ck ke) (hu:P.underlying t=some (.map kt et)) {b:Nat} {o:Obj} {w:World} (hb:w.heap[b]? = some o) (hM:MO ck cv ke m o) :
  ∃ o',(Instr.mapUpdate t (.map (some b)) (ck k) (cv e)).run P w=.ok () {w with heap:=w.heap.setIfInBounds b o'}/\MO ck cv ke (IH ke m k e) o':=by
 obtain⟨es,clock,rfl,he,hborn,hn,hp⟩:=hM
 rcases hk.look he k w with ⟨i,hi,h1,h2,h3,h4,h5⟩ | ⟨hi,h5⟩
 .obtain⟨_,hke,hf,hset,_⟩:=Tp hi
  refine⟨.map (es.modify i fun q=>{q with key:=ck k,val:=cv e}) clock,?_,?_⟩
  .have hst:=hk.stays k m[i].1 w hke
   rw[<- h3] at hst
   simp only[Instr.mapUpdate,Sem.run_bind,run_underlying hu,Result.andThen_ok,Z7 hb,hk.check,h5]
   simp only[Array.getElem?_eq_getElem h2,Option.map_some,Option.getD_some,hst,Result.andThen_ok,Adm _ hb]
  .rw[hset]
   exact MO.upd he hborn hn hp h1 (fun _=>rfl) h2 (hk.same _ _ hke) rfl
 .obtain⟨hf,hset,_,hno⟩:=Wy hi
  refine⟨_,?_,by rw[hset];exact MO.push he hborn hn hp hno⟩
  simp only[Instr.mapUpdate,Sem.run_bind,run_underlying hu,Result.andThen_ok,Z7 hb,hk.check,h5,Adm _ hb]
theorem AgN (hk:KeyT P kt ck ke) (hu:P.underlying t=some (.map kt et)) (hx:ev env x=some v) (hy:ev env y=some (ck k)) (hz:ev env u=some (cv e)) (hJ:MJ ck cv ke B v m) :
  OT P w0 env (B++R) ⟨d,.mapUpdate t x y u,ty,pos,af,g⟩ (fun _ H'=>∃ B',H'=B'++R/\Cov w0 B B'/\MJ ck cv ke B' v (IH ke m k e)):=
 OT.skip fun a w ha hs=>by
  obtain⟨b,o,rfl,rfl,hM⟩:=hJ
  obtain⟨o',hr,hM'⟩:=Adq (e:=e) (k:=k) hk hu (hs.own b o Ad) hM
  exact⟨_,_,by simp[execOp,ha.ev hx,ha.ev hy,ha.ev hz,hr],hs.map,[(b,o')],rfl,Cov.cons (Cov.refl _),b,o',rfl,rfl,hM'⟩
theorem aP {v:Value} {o:Oper} {H1 H2:GH} (hh:∀ w,St w0 H1 w->St w0 H2 w) (h:OT P w0 env H o (Is v H1)):OT P w0 env H o (Is v H2):=by
 intro a w ha hs
 refine I3 ?_ (fun _ _ _ h=>h.elim) (h a w ha hs)
 rintro a' w' ⟨v',H',rfl,hst,rfl,rfl⟩
 exact⟨_,_,rfl,hh _ hst,rfl,rfl⟩
theorem OT.push {Φ:Value->GH->Prop} {o:Oper} (F:GH->GH) (hF:∀ C,Pull (F C) C R) (h:OT P w0 env H o (fun v H'=>∃ C,H'=C++R/\Φ v C)):OT P w0 env H o (fun v H'=>∃ C,H'=F C/\Φ v C):=by
 intro a w ha hs
 refine I3 ?_ (fun _ _ _ h=>h.elim) (h a w ha hs)
 rintro a' w' ⟨v,H',rfl,hst,C,rfl,hC⟩
 exact⟨v,F C,rfl,(hF C).push hst,C,rfl,hC⟩
end
section
variable {P:Program} {n:Nat} {w0:World} {ops:Array Oper} {KS:List Nat} {bX env:HH} {dn:List Nat} {H RS A B:GH} {Q:Exit->Act->World->Prop}
theorem Nd:∀ x∈([]:GH),x∈H:=fun _ h=>absurd h List.not_mem_nil
theorem rsC {y:Nat×Obj} (h:y∈H) (k:∀ x∈A,x∈H):∀ x∈y::A,x∈H:=fun x hx=>(List.mem_cons.1 hx).elim (fun e=>e▸h) (k x)
theorem Md (h:∀ x∈A,x∈H) (k:∀ x∈B,x∈H):∀ x∈A++B,x∈H:=fun x hx=>(List.mem_append.1 hx).elim (h x) (k x)
theorem Mw {H':GH} (e:H=H') (h:(∀ k∈keys H',k∈KS∨w0.heap.size<=k)/\XD P n w0 ops KS bX dn env H' RS Q):(∀ k∈keys H,k∈KS∨w0.heap.size<=k)/\XD P n w0 ops KS bX dn env H RS Q:=e▸h
theorem Iv {H':GH} (e:H=H') (h:(∀ x∈RS,x∈H')/\(∀ k∈keys H',k∈KS∨w0.heap.size<=k)/\XD P n w0 ops KS bX dn env H' RS Q):(∀ x∈RS,x∈H)/\(∀ k∈keys H,k∈KS∨w0.heap.size<=k)/\XD P n w0 ops KS bX dn env H RS Q:=e▸h
theorem AhJ (hok:If n ops=true) (i:Nat) {o:Oper} {d:Nat} {v:Value} (l:HH) (rs:GH) (hR:∀ x∈rs,x∈H) (ho:ops[i]? = some o) (hd:o.dst=some d) (hn:dn.contains i=false) (hl:Live env l) (hs:HO ops dn i (l.map (·.1))=true) (hw:Wt ops l o.guard) (ht:∀ H',(∀ x∈rs,x∈H')->(∀ k∈keys H',k∈KS∨w0.heap.size<=k)->OT P w0 l H' o (Is v H')) (k:XD P n w0 ops KS bX (i::dn) ((d,v)::env) H (rs++RS) Q):XD P n w0 ops KS bX dn env H RS Q:=
 AaC hok i l rs ho hd hn hl hs hR (fun H' h h2=>.inl ⟨hw,ht H' h h2⟩) k
end
section
variable {P:Program} {w0:World} {env:HH} {H:GH} {d:Option Nat} {ty t:TypeId} {pos:String} {af:Array Edge} {g:Option (Nat×Bool)} {N s:Nat}
end
end Go.E
namespace Go.E
open Go
section
variable {P:Program} {kt:TypeId}
theorem AcI (hu:P.underlying kt=some (.int .i64)) (b:Bool) (d:Nat) (k:Int) (w:World):(Instr.checkKey b (d+1) kt (.int .i64 k)).run P w=.ok () w:=by
 simp[Instr.checkKey,run_underlying hu]
theorem Aem (hu:P.underlying kt=some (.int .i64)):KeyT P kt (fun x=>.int .i64 x) HT:=by
 refine⟨fun b k w=>?_,fun k es ks w he=>?_,fun a b w h=>?_,fun a b h=>?_,fun a b c h1 h2=>?_,fun a=>by simp[HT]⟩
 .exact AcI hu b 9999 k w
 .have key:∀ (ks:List Int) (es:List MapEntry) (i:Nat),es.map (·.key)=ks.map (fun x=>Value.int .i64 x)->Instr.findNow (.int .i64) (.int .i64 k) es i=some ((ks.findIdx? (HT k)).bind fun j=>(es[j]?).map fun e=>(i+j,e.val)):=by
   intro ks
   induction ks with
   | nil=>intro es i h;cases es with
    | nil=>rfl
    | cons=>simp at h
   | cons q ks ih=>
    intro es i h
    cases es with
    | nil=>simp at h
    | cons e es=>
     simp only[List.map_cons,List.cons.injEq] at h
     simp only[Instr.findNow,h.1,Instr.sameNow,if_true,List.findIdx?_cons,HT]
     by_cases hq:k=q
     .subst hq;simp
     .have hq':(k == q)=false:=by simpa using hq
      have e1:=ih es (i+1) h.2
      simp only[hq',e1,Bool.false_eq_true,if_false,HT]
      cases hf:ks.findIdx? fun b=>k == b with
      | none=>
       have:ks.findIdx? (HT k)=none:=hf
       simp[this]
      | some j=>
       have:ks.findIdx? (HT k)=some j:=hf
       simp[this,Nat.add_assoc,Nat.add_comm 1 j]
  have:=key ks es 0 he
  simp only[Nat.zero_add] at this
  simp only[Instr.findKey,Sem.run_bind,run_underlying hu,Result.andThen_ok,this,Sem.run_pure]
 .simp only[HT,beq_iff_eq] at h
  subst h
  simp[Instr.keyThatStays,Instr.sameBits]
 .simp only[HT,beq_iff_eq] at h
  rw[h]
 .simp only[HT,beq_iff_eq] at h1 h2 ⊢
  omega
end
end Go.E
namespace Go.E
open Go
section
variable {κ α:Type} {P:Program} {n:Nat} {w0:World} {env:HH} {H R B:GH}
variable {d:Option Nat} {op:Op} {ty:TypeId} {pos:String} {af:Array Edge} {g:Option (Nat×Bool)}
variable {t kt et:TypeId} {x y u:Operand} {v:Value} {ck:κ->Value} {cv:α->Value} {ke:κ->κ->Bool} {m:List (κ×α)} {k:κ} {z e:α} {s:Nat}
end
end Go.E
namespace Go.E
open Go
def RM {α:Type} (T:TypeId) (s:Nat) (c:α->Nat->Value) (B:GH) (v:Value) (l:List α) (x:Nat):Prop:=
 ∃ b o cap N F,(b,BK N F T)∈B/\v=.slice (some ⟨b,o,none⟩) l.length cap/\l.length+x<=cap/\o+cap*s<=N/\cap<=maxLen/\∀ i,i<l.length*s->F (o+i)=eG s c l i
section
variable {α:Type} {P:Program} {w0:World} {env:HH} {H B:GH} {d:Option Nat} {ty t:TypeId} {pos:String} {af:Array Edge} {g:Option (Nat×Bool)}
variable {x:Operand} {s:Nat} {c:α->Nat->Value} {v:Value} {l:List α} {T e:TypeId}
theorem RM.oj {k:Nat} (h:RM T s c B v l k):OJ T s c B v l:=by
 obtain⟨b,o,cap,N,F,h1,h2,h3,h4,h5,h6⟩:=h
 exact .inr ⟨b,o,cap,N,F,h1,h2,Aa,h4,h5,h6⟩
end
end Go.E
namespace Go.E
open Go
theorem Wh.all {ρ:Type} {f:Int->Int ⊕ ρ->Prop} (n:Nat) (p:Nat->Bool) (rt rf:ρ) (hgo:∀ k:Nat,k<n->p k=true->f k (.inl ((k:Int)+1))) (hbad:∀ k:Nat,k<n->p k=false->f k (.inr rf)) (hend:f n (.inr rt)) :
  Wh f 0 (if(List.range n).all p=true then rt else rf):=by
 have key:∀ j k:Nat,k+j=n->Wh f (k:Int) (if(List.range' k j).all p=true then rt else rf):=by
  intro j
  induction j with
  | zero=>
   intro k hk
   obtain rfl:k=n:=Aa
   simp only[List.range'_zero,List.all_nil,if_true]
   exact .out hend
  | succ j ih=>
   intro k hk
   simp only[List.range'_succ,List.all_cons,Bool.and_eq_true]
   by_cases hp:p k=true
   .have:=ih (k+1) Aa
    simp only[hp,true_and]
    exact .again (hgo k Aa hp) this
   .rw[Af (fun h=>hp h.1)]
    exact .out (hbad k Aa (by simpa using hp))
 have:=key n 0 Aa
 rwa[<- List.range_eq_range'] at this
theorem GO {c p q:Prop} [Decidable c] (h1:c->p) (h2:¬ c->q):if c then p else q:=by
 by_cases h:c
 .rw[Ae h];exact h1 h
 .rw[Af h];exact h2 h
theorem Wh.fold {σ ρ:Type} {f:σ->σ ⊕ ρ->Prop} (n:Nat) (st:Nat->σ) (r:ρ) (h:∀ k,k<n->f (st k) (.inl (st (k+1)))) (hn:f (st n) (.inr r)):Wh f (st 0) r:=aH st n h hn
end Go.E
namespace Go.E
open Go
structure Eqk {κ:Type} (ke:κ->κ->Bool):Prop where
 refl:∀ a,ke a a=true
 symm:∀ a b,ke a b=true->ke b a=true
 trans:∀ a b c,ke a b=true->ke b c=true->ke a c=true
theorem XF:Eqk HT:=⟨fun a=>by simp[HT],fun a b h=>by simp[HT] at h ⊢;omega,fun a b c h k=>by simp[HT] at h k ⊢;omega⟩
section
variable {κ α:Type} {ke:κ->κ->Bool}
theorem UY (E:Eqk ke) (d:List (κ×α)) (k:κ) (v:α) (k':κ):Lj ke (IH ke d k v) k'=if ke k' k=true then some v else Lj ke d k':=by
 induction d with
 | nil=>simp[IH,Lj]
 | cons p d ih=>
  simp only[IH]
  by_cases h:ke k p.1=true
  .rw[Ae h]
   simp only[Lj]
   have:ke k' p.1=ke k' k:=by
    rw[Bool.eq_iff_iff]
    exact⟨fun h1=>E.trans _ _ _ h1 (E.symm _ _ h),fun h1=>E.trans _ _ _ h1 h⟩
   rw[this]
   by_cases h2:ke k' k=true <;> simp[h2]
  .rw[Af h]
   simp only[Lj,ih]
   by_cases h2:ke k' p.1=true
   .have h3:¬ ke k' k=true:=fun h3=>h (E.trans _ _ _ (E.symm _ _ h3) h2)
    simp[h2,h3]
   .simp[h2]
theorem Ach (E:Eqk ke) (d:List (κ×α)) (k:κ) (v:α) (k':κ) (z:α):H5 ke (IH ke d k v) k' z=if ke k' k=true then v else H5 ke d k' z:=by
 unfold H5
 rw[UY E]
 split <;> rfl
theorem Wl (E:Eqk ke) (d:List (κ×α)) (k:κ) (v:α) (k':κ):KZ ke (IH ke d k v) k'=(ke k' k||KZ ke d k'):=by
 unfold KZ
 rw[UY E]
 by_cases h:ke k' k=true
 .simp[h]
 .have h':ke k' k=false:=by simpa using h
  simp[h']
theorem Acg {d:List (κ×α)} {k:κ} {z:α} (h:KZ ke d k=false):H5 ke d k z=z:=by
 unfold KZ at h
 unfold H5
 cases hf:Lj ke d k <;> simp_all
end
end Go.E
namespace Go.E
open Go
theorem Wh.find {ρ:Type} {f:Int->Int ⊕ ρ->Prop} (n:Nat) (p:Nat->Bool) (rt:ρ) (rf:Nat->ρ) (hgo:∀ k:Nat,k<n->p k=false->f k (.inl ((k:Int)+1))) (hbad:∀ k:Nat,k<n->p k=true->f k (.inr (rf k))) (hend:f n (.inr rt)) :
  ∃ r,Wh f 0 r/\((r=rt/\(List.range n).any p=false)∨∃ k,k<n/\r=rf k/\(List.range n).any p=true):=by
 have key:∀ j k:Nat,k+j=n->∃ r,Wh f (k:Int) r/\((r=rt/\∀ i,k<=i->i<n->p i=false)∨∃ i,i<n/\r=rf i/\p i=true):=by
  intro j
  induction j with
  | zero=>
   intro k hk
   obtain rfl:k=n:=Aa
   exact⟨rt,.out hend,.inl ⟨rfl,fun i h1 h2=>by omega⟩⟩
  | succ j ih=>
   intro k hk
   by_cases hp:p k=true
   .exact⟨rf k,.out (hbad k Aa hp),.inr ⟨k,Aa,rfl,hp⟩⟩
   .obtain⟨r,h1,h2⟩:=ih (k+1) Aa
    refine⟨r,.again (hgo k Aa (by simpa using hp)) h1,?_⟩
    rcases h2 with ⟨h2,h3⟩ | h2
    .refine .inl ⟨h2,fun i h4 h5=>?_⟩
     by_cases hik:i=k
     .subst hik;simpa using hp
     .exact h3 i Aa h5
    .exact .inr h2
 obtain⟨r,h1,h2⟩:=key n 0 Aa
 refine⟨r,h1,?_⟩
 rcases h2 with ⟨h2,h3⟩ | ⟨i,h2,h3,h4⟩
 .refine .inl ⟨h2,?_⟩
  rw[<- Bool.not_eq_true]
  intro h
  obtain⟨i,hi,hp⟩:=List.any_eq_true.1 h
  rw[h3 i Aa (List.mem_range.1 hi)] at hp
  cases hp
 .exact .inr ⟨i,h2,h3,List.any_eq_true.2 ⟨i,List.mem_range.2 h2,h4⟩⟩
theorem Tt {α:Type} [Inhabited α] (l:List α) (q:α->Bool):(List.range l.length).any (fun k=>q (l[k]!))=l.any q:=by
 rw[Bool.eq_iff_iff,List.any_eq_true,List.any_eq_true]
 constructor
 .rintro⟨k,hk,hq⟩
  have hk:=List.mem_range.1 hk
  rw[getElem!_pos l k hk] at hq
  exact⟨l[k],List.getElem_mem hk,hq⟩
 .rintro⟨x,hx,hq⟩
  obtain⟨k,hk,rfl⟩:=List.getElem_of_mem hx
  exact⟨k,List.mem_range.2 hk,by rw[getElem!_pos l k hk];exact hq⟩
theorem JK {k:Nat} (h:k<9000000000000000000):GN ((k:Int)+1):=⟨Aa,Aa⟩
end Go.E
namespace Go.E
open Go
end Go.E
namespace Go.E
open Go
theorem AjS (f g:Nat->Int):IJ 2 f g=(decide (f 0=g 0)&&decide (f 1=g 1)):=by
 rw[Bool.eq_iff_iff,H6]
 simp only[Bool.and_eq_true,decide_eq_true_eq]
 exact⟨fun h=>⟨h 0 Aa,h 1 Aa⟩,fun h i hi=>by
  rcases(show i=0∨i=1 by omega) with rfl | rfl
  .exact h.1
  .exact h.2⟩
def M3 (n a b:Int):Bool:=decide (a<=n)&&decide (n<=b)
def Pd (n:Int):Bool:=M3 n 1 1048576
def shB (n:Int):Bool:=M3 n 1 64
def Oa (m:Nat->Int):Bool:=
 if m 0=11 then(if m 1=0 then shB (m 2) else shB (m 1)&&decide (m 2=0))
 else if m 0=1∨m 0=4∨m 0=6∨m 0=8 then decide (m 1=0)&&shB (m 2)
 else shB (m 1)&&decide (m 2=0)
def W0 (t r:Int):Bool:=M3 t 1 250&&M3 r 0 250
def AdT (m:Nat->Int) (i j:Nat):Bool:=(List.range j).all fun k=>!decide (m (12+k*2+0)=m (12+(i*2+0)))
def Pa (m:Nat->Int) (i:Nat):Bool:=
 if m 11<=i then decide (m (12+(i*2+0))=0)&&decide (m (12+(i*2+1))=0)
 else Pd (m (12+(i*2+0)))&&M3 (m (12+(i*2+1))) 1 1048576&&AdT m i i
def Pb (m:Nat->Int):Bool:=M3 (m 11) 1 8&&Pd (m 9)&&M3 (m 10) 0 1048576&&(List.range 8).all (Pa m)
def S1 (m:Nat->Int):Bool:=
 if m 0=1∨m 0=2 then W0 (m 5) (m 6)&&M3 (m 7) 1 4&&M3 (m 4) 1 1048576&&Pd (m 3)
 else if m 0=3 then M3 (m 4) 1 1048576&&M3 (m 8) 1 15&&Pd (m 3)
 else if m 0=5∨m 0=6 then M3 (m 8) 0 1&&Pd (m 3)
 else if m 0=4∨m 0=7∨m 0=8∨m 0=9 then Pd (m 3)
 else if m 0=10 then Pd (m 3)&&Pd (m 9)&&decide (m 9<m 3)
 else if m 0=11 then Pb m else false
def TS (m:Nat->Int):Nat->Int:=
 if m 0=1∨m 0=2 then Gq (Gq (Gq (GX m 5 2 (fun _=>0)) 7 0) 4 0) 3 0
 else if m 0=3 then Gq (Gq (Gq (Gq m 4 0) 8 0) 8 0) 3 0
 else if m 0=5∨m 0=6 then Gq (Gq m 8 0) 3 0
 else if m 0=4∨m 0=7∨m 0=8∨m 0=9 then Gq m 3 0
 else if m 0=10 then Gq (Gq m 3 0) 9 0
 else if m 0=11 then GX (Gq (Gq (Gq m 11 0) 9 0) 10 0) 12 16 (fun _=>0) else m
def QI (m:Nat->Int):Nat->Int:=Gq (Gq (Gq (fun _=>0) 0 (m 0)) 1 (m 1)) 2 (m 2)
def Pf (m:Nat->Int):Bool:=Oa m&&S1 m&&IJ 28 (TS m) (QI m)
end Go.E
namespace Go.E
open Go
theorem AbX {m:Nat->Int} {i:Nat} (h:Pa m i=true):(0<=m (12+(i*2+0))/\m (12+(i*2+0))<=1048576)/\0<=m (12+(i*2+1))/\m (12+(i*2+1))<=1048576:=by
 unfold Pa at h
 split at h
 .simp only[Bool.and_eq_true,decide_eq_true_eq] at h;omega
 .simp only[Bool.and_eq_true,decide_eq_true_eq,Pd,M3] at h;omega
theorem Afr {m:Nat->Int} (h:Pf m=true):(∀ k,(k=0∨k=1∨k=2∨k=5∨k=6∨k=7∨k=8∨k=11)->0<=m k/\m k<256)/\(∀ k,(k=3∨k=4∨k=9∨k=10∨12<=k)->k<28->0<=m k/\m k<4294967296):=by
 unfold Pf at h
 simp only[Bool.and_eq_true] at h
 obtain⟨⟨he,hm⟩,hq⟩:=h
 rw[H6] at hq
 have FX:(0<=m 0/\m 0<12)/\(0<=m 1/\m 1<=64)/\0<=m 2/\m 2<=64:=by
  refine⟨?_,?_⟩
  .unfold S1 at hm
   repeat' split at hm
   all_goals first | omega | cases hm
  .unfold Oa at he
   repeat' split at he
   all_goals (simp only[Bool.and_eq_true,decide_eq_true_eq,shB,M3] at he;omega)
 have key:∀ k,3<=k->k<28->0<=m k/\m k<=1048576/\(k=5∨k=6∨k=7∨k=8∨k=11->m k<256):=by
  intro k h3 DN
  have hk:=hq k DN
  have hh:QI m k=0:=by simp only[QI,Gq];rw[Af Aa,Af Aa,Af Aa]
  rw[hh] at hk
  unfold TS at hk
  unfold S1 at hm
  repeat' split at hm
  .rename_i h0
   rw[Ae h0] at hk
   simp only[Gq,GX] at hk
   simp only[Bool.and_eq_true,W0,Pd,M3,decide_eq_true_eq] at hm
   by_cases e3:k=3
   .subst e3;omega
   by_cases e4:k=4
   .subst e4;omega
   by_cases e5:k=5
   .subst e5;omega
   by_cases e6:k=6
   .subst e6;omega
   by_cases e7:k=7
   .subst e7;omega
   rw[Af e3,Af e4,Af e7,Af Aa] at hk
   omega
  .rename_i h0 h1
   rw[Af h0,Ae h1] at hk
   simp only[Gq] at hk
   simp only[Bool.and_eq_true,Pd,M3,decide_eq_true_eq] at hm
   by_cases e3:k=3
   .subst e3;omega
   by_cases e4:k=4
   .subst e4;omega
   by_cases e8:k=8
   .subst e8;omega
   rw[Af e3,Af e8,Af e8,Af e4] at hk
   omega
  .rename_i h0 h1 h2
   rw[Af h0,Af h1,Ae h2] at hk
   simp only[Gq] at hk
   simp only[Bool.and_eq_true,Pd,M3,decide_eq_true_eq] at hm
   by_cases e3:k=3
   .subst e3;omega
   by_cases e8:k=8
   .subst e8;omega
   rw[Af e3,Af e8] at hk
   omega
  .rename_i h0 h1 h2 h4
   rw[Af h0,Af h1,Af h2,Ae h4] at hk
   simp only[Gq] at hk
   simp only[Bool.and_eq_true,Pd,M3,decide_eq_true_eq] at hm
   by_cases e3:k=3
   .subst e3;omega
   rw[Af e3] at hk
   omega
  .rename_i h0 h1 h2 h4 h5
   rw[Af h0,Af h1,Af h2,Af h4,Ae h5] at hk
   simp only[Gq] at hk
   simp only[Bool.and_eq_true,Pd,M3,decide_eq_true_eq] at hm
   by_cases e3:k=3
   .subst e3;omega
   by_cases e9:k=9
   .subst e9;omega
   rw[Af e9,Af e3] at hk
   omega
  .rename_i h0 h1 h2 h4 h5 h6
   rw[Af h0,Af h1,Af h2,Af h4,Af h5,Ae h6] at hk
   simp only[Gq,GX] at hk
   unfold Pb at hm
   simp only[Bool.and_eq_true,Pd,M3,decide_eq_true_eq,List.all_eq_true] at hm
   by_cases e9:k=9
   .subst e9;omega
   by_cases u7:k=10
   .subst u7;omega
   by_cases EP:k=11
   .subst EP;omega
   by_cases Gi:12<=k
   .have hst:=AbX (hm.2 ((k-12) / 2) (List.mem_range.2 Aa))
    rcases(show k=12+((k-12) / 2*2+0)∨k=12+((k-12) / 2*2+1) by omega) with e | e
    .rw[<- e] at hst;omega
    .rw[<- e] at hst;omega
   rw[Af Aa,Af u7,Af e9,Af EP] at hk
   omega
  .cases hm
 refine⟨fun k hk=>?_,fun k hk DN=>?_⟩
 .rcases hk with rfl | rfl | rfl | hk
  .omega
  .omega
  .omega
  .have:=key k Aa Aa
   have:=this.2.2 Aa
   omega
 .have:=key k Aa DN
  omega
end Go.E
namespace Go.E
open Go
def OP (P:Program) (rec:TypeId->Option (List IntKind)):List Field->Nat->Option (List IntKind)
 | [],_=>some []
 | f::fs,o=>if f.offset=o then
  match rec f.type with
  | some ks=>if P.cellsOf f.type=ks.length then(OP P rec fs (o+ks.length)).map (ks++·) else none
  | none=>none
  else none
def QG (P:Program):Nat->TypeId->Option (List IntKind)
 | 0,_=>none
 | k+1,t=>match P.underlying t with
  | some (.int q)=>some [q]
  | some (.struct fs)=>OP P (QG P k) fs.toList 0
  | some (.array len e)=>match QG P k e with
   | some ks=>if P.cellsOf e=ks.length then some (List.replicate len ks).flatten else none
   | none=>none
  | _=>none
def Ints (ks:List IntKind) (cs:List Value):Prop:=cs.length=ks.length/\∀ (i:Nat) (q:IntKind),ks[i]? = some q->∃ n:Int,cs[i]? = some (Value.int q n)/\(Lit.int q n).wf=true
theorem Ints.nil:Ints [] []:=⟨rfl,fun i q h=>by simp at h⟩
theorem Ints.app {a b:List IntKind} {u v:List Value} (h1:Ints a u) (h2:Ints b v):Ints (a++b) (u++v):=by
 refine⟨by simp[h1.1,h2.1],fun i q h=>?_⟩
 by_cases hi:i<a.length
 .rw[List.getElem?_append_left hi] at h
  rw[List.getElem?_append_left (by rw[h1.1];exact hi)]
  exact h1.2 i q h
 .rw[List.getElem?_append_right Aa] at h
  rw[List.getElem?_append_right (by rw[h1.1];omega),h1.1]
  exact h2.2 _ q h
section
variable {H:Type} {enc:TypeId×Value->H} {P:Program} {w:World} {base:Nat} {sp:Nat->Bool} {held:Bool}
theorem Zr:∀ (k:Nat) (t:TypeId) (ks:List IntKind),QG P k t=some ks->P.cellsOf t=ks.length->∀ (fuel:Nat) (cs:List Value) (x:DataW H×List MemPlace),
  DataW.trod enc P w base sp held fuel t cs=some x->x.2=[]/\Ints ks cs:=by
 intro k
 induction k with
 | zero=>intro t ks h;simp[QG] at h
 | succ k ih=>
  intro t ks h hc fuel cs x hx
  simp only[QG] at h
  split at h
  .rename_i q hu
   simp only[Option.some.injEq] at h
   subst h
   obtain⟨n,rfl,rfl,hw⟩:=DataW.trod_int hu hx
   refine⟨rfl,rfl,fun i q' hq=>?_⟩
   cases i with
   | zero=>simp at hq;subst hq;exact⟨n,rfl,hw⟩
   | succ i=>simp at hq
  .rename_i fs hu
   obtain⟨xs,n,rfl,rfl,hl,hn,he⟩:=DataW.trod_struct hu hx
   have key:∀ (l:List Field) (o:Nat) (ks:List IntKind),OP P (QG P k) l o=some ks->(∀ f∈l,∃ y,DataW.trod enc P w base sp held n f.type ((cs.drop f.offset).take (P.cellsOf f.type))=some y)->Ints ks ((cs.drop o).take ks.length):=by
    intro l
    induction l with
    | nil=>intro o ks h _;simp only[OP,Option.some.injEq] at h;subst h;simpa using Ints.nil
    | cons f l ihl=>
     intro o ks h hy
     simp only[OP] at h
     split at h
     .rename_i ho
      split at h
      .rename_i k1 hr
       split at h
       .rename_i hsz
        simp only[Option.map_eq_some_iff] at h
        obtain⟨k2,hk,rfl⟩:=h
        obtain⟨y,E9⟩:=hy f List.mem_cons_self
        have i1:=(ih _ _ hr hsz _ _ _ E9).2
        have i2:=ihl _ _ hk fun f hf=>hy f (List.mem_cons_of_mem _ hf)
        rw[ho,hsz] at i1
        have:=i1.app i2
        rwa[<- List.drop_drop,<- List.take_add,<- List.length_append] at this
       .cases h
      .cases h
     .cases h
   have each:∀ (i:Nat) (f:Field),fs[i]? = some f->∃ y,DataW.trod enc P w base sp held n f.type ((cs.drop f.offset).take (P.cellsOf f.type))=some y/\xs[i]? = some y:=by
    intro i f hf
    have h1:=he i f hf
    have hi:i<xs.length:=by rw[hn];exact(Array.getElem?_eq_some_iff.1 hf).1
    exact⟨xs[i],by rw[h1];exact List.getElem?_eq_getElem hi,List.getElem?_eq_getElem hi⟩
   refine⟨?_,?_⟩
   .have kf:∀ (l:List Field) (o:Nat) (ks:List IntKind),OP P (QG P k) l o=some ks->∀ f∈l,∃ kk,QG P k f.type=some kk/\P.cellsOf f.type=kk.length:=by
     intro l
     induction l with
     | nil=>intro o ks _ f hf;simp at hf
     | cons f l ihl=>
      intro o ks h f' hf
      simp only[OP] at h
      split at h
      .split at h
       .rename_i k1 hr
        split at h
        .rename_i hsz
         simp only[Option.map_eq_some_iff] at h
         obtain⟨k2,hk,rfl⟩:=h
         rcases List.mem_cons.1 hf with rfl | hf
         .exact⟨k1,hr,hsz⟩
         .exact ihl _ _ hk f' hf
        .cases h
       .cases h
      .cases h
    simp only[List.flatMap_eq_nil_iff]
    intro y hy
    obtain⟨i,hi⟩:=List.getElem?_of_mem hy
    have hlt:i<fs.size:=by rw[<- hn];exact(List.getElem?_eq_some_iff.1 hi).1
    obtain⟨y',h1,h2⟩:=each i fs[i] (Array.getElem?_eq_getElem hlt)
    rw[hi] at h2
    cases h2
    obtain⟨kk,hk,hz⟩:=kf _ _ _ h fs[i] Ad
    exact(ih _ _ hk hz _ _ _ h1).1
   .have:=key fs.toList 0 ks h fun f hf=>by
     obtain⟨i,hi⟩:=List.getElem?_of_mem hf
     obtain⟨y,h1,_⟩:=each i f (by rw[<- hi];simp)
     exact⟨y,h1⟩
    rwa[List.drop_zero,List.take_of_length_le Aa] at this
  .rename_i len e hu
   split at h
   .rename_i k1 hr
    split at h
    .rename_i hsz
     simp only[Option.some.injEq] at h
     subst h
     obtain⟨xs,n,rfl,rfl,hl,hn,he⟩:=DataW.trod_array hu hx
     have each:∀ i,i<len->∃ y,DataW.trod enc P w base sp held n e ((cs.drop (i*P.cellsOf e)).take (P.cellsOf e))=some y/\xs[i]? = some y:=by
      intro i hi
      have hi':i<xs.length:=Aa
      exact⟨xs[i],by rw[he i hi];exact List.getElem?_eq_getElem hi',List.getElem?_eq_getElem hi'⟩
     refine⟨?_,?_⟩
     .simp only[List.flatMap_eq_nil_iff]
      intro y hy
      obtain⟨i,hi⟩:=List.getElem?_of_mem hy
      obtain⟨y',h1,h2⟩:=each i (by rw[<- hn];exact(List.getElem?_eq_some_iff.1 hi).1)
      rw[hi] at h2
      cases h2
      exact(ih _ _ hr hsz _ _ _ h1).1
     .have key:∀ j,j<=len->Ints (List.replicate j k1).flatten (cs.take (j*k1.length)):=by
       intro j
       induction j with
       | zero=>intro _;simpa using Ints.nil
       | succ j ihj=>
        intro hj
        obtain⟨y,h1,_⟩:=each j Aa
        have i1:=(ih _ _ hr hsz _ _ _ h1).2
        rw[hsz] at i1
        have:=(ihj Aa).app i1
        rw[<- List.take_add] at this
        rw[List.replicate_succ',List.flatten_append,Nat.succ_mul]
        simpa using this
      have:=key len (Nat.le_refl _)
      rwa[List.take_of_length_le (by rw[hl,hc];simp)] at this
    .cases h
   .cases h
  .cases h
def intOf:Value->Int
 | .int _ n=>n
 | _=>0
def kc (ks:List IntKind) (m:Nat->Int):Nat->Value:=fun i=>.int (ks.getD i .i64) (m i)
def wfs (ks:List IntKind) (m:Nat->Int):Prop:=∀ (i:Nat) (q:IntKind),ks[i]? = some q->(Lit.int q (m i)).wf=true
theorem Ahd (n:Nat) (m:Nat->Int):kc (List.replicate n .i64) m=iv m:=by
 funext i
 simp only[kc,iv,List.getD_eq_getElem?_getD,List.getElem?_replicate]
 split <;> rfl
theorem Ints.fn {ks:List IntKind} {cs:List Value} (h:Ints ks cs):∃ m,wfs ks m/\(∀ i,i<ks.length->cs[i]? = some (kc ks m i))/\cs=(List.range ks.length).map (kc ks m):=by
 have e:∀ (i:Nat) (q:IntKind),ks[i]? = some q->cs[i]? = some (.int q (intOf (cs.getD i undef)))/\(Lit.int q (intOf (cs.getD i undef))).wf=true:=by
  intro i q hq
  obtain⟨n,h1,h2⟩:=h.2 i q hq
  have:intOf (cs.getD i undef)=n:=by rw[List.getD_eq_getElem?_getD,h1];rfl
  rw[this];exact⟨h1,h2⟩
 have f:∀ i,i<ks.length->cs[i]? = some (kc ks (fun i=>intOf (cs.getD i undef)) i):=by
  intro i hi
  have:=(e i ks[i] (List.getElem?_eq_getElem hi)).1
  rw[this,kc]
  rw[show ks.getD i .i64=ks[i] from by rw[List.getD_eq_getElem?_getD,List.getElem?_eq_getElem hi];rfl]
 refine⟨fun i=>intOf (cs.getD i undef),fun i q hq=>(e i q hq).2,f,?_⟩
 apply List.ext_getElem?
 intro i
 by_cases hi:i<ks.length
 .rw[f i hi,List.getElem?_map,List.getElem?_range hi];rfl
 .rw[List.getElem?_eq_none (by rw[h.1];omega),List.getElem?_eq_none (by simp;omega)]
theorem Ab9 {r:Reach} {b0:Nat} {t e:TypeId} {v:Value} {d:DataW H} {ps:List MemPlace} {ks:List IntKind} (ht:P.underlying t=some (.slice e)) (hk:QG P 9 e=some ks) (hc:P.cellsOf e=ks.length) (hp:0<ks.length) (hval:Value.okWide P w r b0 t v) (hd:DataW.Trod enc P w base sp held t v d ps) :
  ∃ l:LM,SL w ks.length (kc ks) v l/\(∀ m∈l,wfs ks m)/\((d=.nil/\l=[])∨∃ elems spare,d=.slice elems spare/\elems.length=l.length):=by
 obtain⟨a,len,cap,rfl⟩:=WideShapes.okWide_slice ht hval
 obtain⟨fuel,hx⟩:=hd
 rcases DataW.trod_slice ht hx with ⟨h1,h2⟩ | ⟨a',len',cap',elems,rest,n,rfl,h1,h2,hb,hl,hm,hn,he,-,-⟩
 .have h1':Value.slice a len cap=.slice none 0 0:=by simpa [Value.cells] using h1
  cases h1';cases h2
  exact⟨[],SL.nil,Ad,.inl ⟨rfl,rfl⟩⟩
 .have h1':Value.slice a len cap=.slice (some a') len' cap':=by simpa [Value.cells] using h1
  cases h1';cases h2
  have each:∀ i,i<len->∃ m,wfs ks m/\∀ j,j<ks.length->w.cell? (a'.add (i*ks.length+j))=some (kc ks m j):=by
   intro i hi
   have h3:=he i hi
   rw[List.getElem?_eq_getElem Aa] at h3
   obtain⟨cs,h4,h5⟩:=Option.bind_eq_some_iff.1 h3
   obtain⟨_,h6⟩:=Zr 9 e ks hk hc _ _ _ h5
   obtain⟨m,hm,hf,_⟩:=h6.fn
   refine⟨m,hm,fun j hj=>?_⟩
   have h7:=World.cells?_some h4
   rw[hc] at h7
   have:=h7.2.2 j (by first | exact hj | omega)
   rw[hf j hj] at this
   rw[<- this]
   rw[Addr.add_add]
  refine⟨(List.range len).map fun i=>if h:i<len then(each i h).choose else fun _=>0,?_,?_,.inr ⟨_,_,rfl,by simpa using hn⟩⟩
  .refine⟨some a',cap,Ad,by simpa using hl,hm,(fun h=>by cases h),?_⟩
   simp only[List.length_map,List.length_range]
   by_cases h0:len=0
   .left;simp[h0]
   right
   obtain⟨b,off,JL⟩:=a'
   have hspot:JL=none:=by
    have:=(each 0 Aa).choose_spec.2 0 hp
    simpa [Addr.add] using World.cell?_spot this
   subst hspot
   refine⟨b,off,rfl,fun i hi=>?_⟩
   have hq:i / ks.length<len:=Nat.div_lt_of_lt_mul (by rw[Nat.mul_comm];exact hi)
   have h8:=(each _ hq).choose_spec.2 (i % ks.length) (Nat.mod_lt _ hp)
   have e1:i / ks.length*ks.length+i % ks.length=i:=by rw[Nat.mul_comm];exact Nat.div_add_mod _ _
   rw[e1] at h8
   rw[Addr.add_lit] at h8
   rw[h8,eG,List.getElem?_map,List.getElem?_range hq]
   simp only[Option.map_some,Option.elim,dif_pos hq]
  .intro m hm'
   obtain⟨i,hi,rfl⟩:=List.mem_map.1 hm'
   have hi:=List.mem_range.1 hi
   simp only[dif_pos hi]
   exact(each i hi).choose_spec.1
theorem SL.one {q:IntKind} {c:Int->Nat->Value} (hc:∀ x,c x 0=.int q x) {v:Value} {l:LM} (h:SL w 1 (kc [q]) v l):SL w 1 c v (l.map (· 0)):=by
 obtain⟨p,cp,rfl,h2,h3,h4,h5⟩:=h
 refine⟨p,cp,Ad,by simpa using h2,h3,h4,?_⟩
 rcases h5 with h5 | ⟨b,o,rfl,h5⟩
 .exact .inl (by simpa using h5)
 .refine .inr ⟨b,o,rfl,fun i hi=>?_⟩
  have hi':i<l.length:=by simpa using hi
  rw[h5 i (by simpa using hi)]
  simp only[eG,Nat.div_one,Nat.mod_one,List.getElem?_map,List.getElem?_eq_getElem hi',Option.map_some,Option.elim,hc]
  rfl
theorem aS {n:Nat} {v:Value} {l:LM} (h:SL w n (kc (List.replicate n .i64)) v l):SL w n iv v l:=by
 have:kc (List.replicate n .i64)=iv:=funext fun m=>Ahd n m
 rwa[this] at h
theorem Ae2 {n:Nat} {m:Nat->Int} (h:wfs (List.replicate n .i64) m):∀ i,i<n->GN (m i):=fun i hi=>bounds_i64 (h i .i64 (by simp[hi]))
theorem Yq {r:Reach} {b0:Nat} {t e:TypeId} {v:Value} {d:DataW H} {ps:List MemPlace} (n:Nat) (ht:P.underlying t=some (.slice e)) (hk:QG P 9 e=some (List.replicate n .i64)) (hc:P.cellsOf e=n) (hn:Nat.blt 0 n=true) (hval:Value.okWide P w r b0 t v) (hd:DataW.Trod enc P w base sp held t v d ps) :
  ∃ l:LM,SL w n iv v l/\(∀ m∈l,∀ i,i<n->GN (m i))/\((d=.nil/\l.length=0)∨∃ elems spare,d=.slice elems spare/\elems.length=l.length):=by
 obtain⟨l,h1,h2,h3⟩:=Ab9 ht hk (by simpa using hc) (by simpa [Nat.blt_eq] using hn) hval hd
 rw[List.length_replicate] at h1
 refine⟨l,aS h1,fun m hm=>Ae2 (h2 m hm),?_⟩
 rcases h3 with ⟨h3,rfl⟩ | h3
 .exact .inl ⟨h3,rfl⟩
 .exact .inr h3
theorem Ag0 {ts:List TypeId} {ds:List (DataW H)} (h:(DataW.weightsEach P ts ds).all (· <= reachBytes)=true) {j:Nat} {t e:TypeId} {d:DataW H} {n:Nat} (b:Nat) (ht:ts[j]? = some t) (hd:ds[j]? = some d) (hu:P.underlying t=some (.slice e)) (hb:P.bytesOf e=b) (hn:(d=.nil/\n=0)∨∃ elems spare,d=.slice elems spare/\elems.length=n):n*b<=140737488355327:=by
 rcases hn with ⟨_,rfl⟩ | ⟨es,sp,rfl,rfl⟩
 .omega
 .have h1:=sized_slice h ht hd hu
  have h2:=reachBytes_lt
  rw[hb,Nat.add_mul] at h1
  have:es.length*b<=es.length*b+sp.length*b:=Nat.le_add_right _ _
  omega
end
end Go.E
namespace Go.Proofs.YtljklmlodfbdnaaGreat
open Go Go.E Go.ChangeShapes Go.WideShapes Go.ChangeAt Go.RowKit Go.Proofs.Tryz
theorem Adg {w w':World} (h:St w [] w'):Below w.heap.size w w':=
 ⟨h.os,h.tape,h.out,h.size,fun k hk=>h.keep k hk Ad⟩
theorem Y7 {H:Type} {enc:TypeId×Value->H} {P:Program} (hl:laidOutB P=true) {W W':World} (hb:Below W.heap.size W W') :
  ∀ (ts:List TypeId) (vs:List Value) (ds:List (DataW H)) (p:List MemPlace),(∀ t∈ts,P.readableRec t=true/\t<P.types.size)->(∀ x∈p,x.block<W.heap.size) ->
   DataW.TrodAll enc P W 0 (fun _=>true) true ts vs ds p->DataW.TrodAll enc P W' 0 (fun b=>decide (b<W.heap.size)) true ts vs ds p
 | [],vs,ds,p,_,_,h=>by
  obtain⟨rfl,rfl,rfl⟩:=trodAll_nil h
  exact trodAll_mk0
 | t::ts,vs,ds,p,hts,hp,h=>by
  obtain⟨v,vs',d,ds',a,b,rfl,rfl,rfl,h1,h2⟩:=trodAll_cons h
  have ht:=hts t List.mem_cons_self
  exact trodAll_cons_mk (Below.trod hl ht.1 ht.2 h1 hb fun x hx=>hp x (List.mem_append_left _ hx))
   (Y7 hl hb ts vs' ds' b (fun s hs=>hts s (List.mem_cons_of_mem _ hs)) (fun x hx=>hp x (List.mem_append_right _ hx)) h2)
theorem Ad8 {H:Type} {enc:TypeId×Value->H} {P:Program} (hl:laidOutB P=true) {f:Func} {s:ChangeSpec} {W W':World} {args:Array Value} {ds gs:List (DataW H)} {before:List MemPlace} {tb:TypeId} (hW:DataW.Whole enc P f.params.toList s.vars false W args.toList ds gs before) (hvars:s.vars=[]) (hfn:s.fn H (ds++gs)={results:=[.lit (.bool true)],args:=ds}) (hres:f.resultTypes=#[tb]) (hb:P.underlying tb=some .bool) (hpar:f.params.toList.all (fun t=>P.readableRec t&&Nat.blt t P.types.size)=true) (hst:St W [] W'):s.post enc P f false true false false W args (.bool true) W':=by
 have hbel:=Adg hst
 have hlt:∀ p∈before,p.block<W.heap.size:=fun p hp=>by simpa using hW.lt p hp
 have hW1:=hW
 obtain⟨p,q,hA,hV,e,_,_⟩:=hW
 rw[hvars] at hV
 obtain⟨_,rfl⟩:=trodVars_none hV
 rw[List.append_nil] at e
 subst e
 refine⟨ds,gs,before,[],before,[],hW1,?_,?_,?_,hbel.frame _,fun h=>by cases h⟩
 .rw[hfn,hres]
  exact trodAll_cons_mk (shut_bool hb true) trodAll_mk0
 .rw[hfn]
  refine Y7 hl hbel _ _ _ _ (fun t ht=>?_) hlt hA
  have:=List.all_eq_true.1 hpar t ht
  rw[Bool.and_eq_true] at this
  exact⟨this.1,Nat.le_of_ble_eq_true this.2⟩
 .rw[hfn,hvars];rfl
end Go.Proofs.YtljklmlodfbdnaaGreat
namespace Go.E
open Go
def nz (x:Int):Bool:=decide (x≠0)
abbrev An (a b c d:Int) (e:Bool) (f:Int) (g:Nat->Int) (h:Int) (v w x y:Value):List Value:=[iI a,iI b,iI c,iI d,.bool e,iI f,iI (g 0),iI (g 1),iI h,v,w,x,y]
abbrev Ao:List Value:=[iI 0,iI 0,iI 0,iI 0,.bool false,iI 0,iI 0,iI 0,iI 0,.slice none 0 0,.slice none 0 0,.slice none 0 0,.slice none 0 0]
abbrev Ap (c:Nat->Int) (l:List Value):List Value:=iI (c 0)::.bool (nz (c 1))::iI (c 2)::iI (c 3)::iI (c 4)::iI (c 5)::iI (c 6)::l
def mv (k:Nat->Bool) (m:Nat->Int):Nat->Value:=fun i=>if k i=true then .bool (nz (m i)) else .int .i64 (m i)
def bI (b:Bool):Int:=if b=true then 1 else 0
def kS (l:List Nat):Nat->Bool:=fun i=>l.contains i
def II (a s:Nat) (k:Nat->Bool):Nat->Bool:=fun i=>if i<a then false else k ((i-a) % s)
theorem Aga (b:Bool):nz (bI b)=b:=by cases b <;> decide
theorem ZO {k:Nat->Bool} {m:Nat->Int} {i:Nat} (h:k i=true):mv k m i=.bool (nz (m i)):=by unfold mv;rw[Ae h]
theorem Yt {k:Nat->Bool} {m:Nat->Int} {i:Nat} (h:k i=false):mv k m i=.int .i64 (m i):=by unfold mv;rw[h];rfl
theorem L5 {k:Nat->Bool} {m:Nat->Int} {i:Nat}:(mv k m i).oneCell'=true:=by unfold mv;split <;> rfl
theorem W8 {k k':Nat->Bool} {m:Nat->Int} {o s:Nat} (h:∀ i,i<s->k (o+i)=k' i):∀ i,i<s->mv k m (o+i)=mv k' (fun i=>m (o+i)) i:=fun i hi=>by
 unfold mv;rw[h i hi]
theorem TU {a s:Nat} {k:Nat->Bool} {b:Bool} {X j r:Nat} (hX:X=a+(j*s+r)) (hr:r<s) (hb:k r=b):II a s k X=b:=by
 subst hX
 unfold II
 rw[Af Aa,Nat.add_sub_cancel_left,Nat.mul_comm,Nat.mul_add_mod,Nat.mod_eq_of_lt hr]
 exact hb
theorem AaJ (m:Nat->Int) (o:Nat) (x:Int):Gq m o x o=x:=Ae rfl
theorem AaH {m:Nat->Int} {o i:Nat} {x:Int} (h:i≠o):Gq m o x i=m i:=Af h
theorem Ae6 {k:Nat->Bool} {m:Nat->Int} {o:Nat} {x:Int} (h:k o=false):upd (mv k m) o (.int .i64 x)=mv k (Gq m o x):=by
 funext i
 by_cases hi:i=o
 .subst hi
  rw[Yt h,AaJ]
  exact Ae rfl
 .show(if i=o then _ else mv k m i)=_
  rw[Af hi]
  unfold mv
  rw[AaH hi]
theorem Ae7 {k:Nat->Bool} {m:Nat->Int} {o:Nat} {x:Bool} (h:k o=true):upd (mv k m) o (.bool x)=mv k (Gq m o (bI x)):=by
 funext i
 by_cases hi:i=o
 .subst hi
  rw[ZO h,AaJ,Aga]
  exact Ae rfl
 .show(if i=o then _ else mv k m i)=_
  rw[Af hi]
  unfold mv
  rw[AaH hi]
section
variable {P:Program} {w0:World} {env:HH} {H H':GH} {ty:TypeId} {pos:String} {af:Array Edge} {g:Option (Nat×Bool)} {d:Option Nat} {t:TypeId} {x y:Operand} {b o N s:Nat} {T:TypeId} {m:Nat->Int} {k:Nat->Bool}
theorem SW {v:Int} (hx:ev env x=some (.pointer (some ⟨b,o,none⟩))) (hy:ev env y=some (.int .i64 v)) (ht:TyS P t 1 false) (hm:(b,BK N (mv k m) T)∈H) (ho:o<N) (hk:k o=false) (hu:Upd H b (BK N (mv k (Gq m o v)) T) H'):OT P w0 env H ⟨none,.store t x y,ty,pos,af,g⟩ (Is undef H'):=
 Acb hx hy ht rfl hm ho (by rw[Ae6 hk];exact hu)
theorem AdD {v:Bool} (hx:ev env x=some (.pointer (some ⟨b,o,none⟩))) (hy:ev env y=some (.bool v)) (ht:TyS P t 1 false) (hm:(b,BK N (mv k m) T)∈H) (ho:o<N) (hk:k o=true) (hu:Upd H b (BK N (mv k (Gq m o (bI v))) T) H'):OT P w0 env H ⟨none,.store t x y,ty,pos,af,g⟩ (Is undef H'):=
 Acb hx hy ht rfl hm ho (by rw[Ae7 hk];exact hu)
theorem US {ps:Array (Nat×Operand)} {zf f:Nat->Value} (hok:KA P t) (hz:ZeroT P t (AG N zf)) (hf:Fill P t N env ps.toList zf f) (hl:∀ i,i<N->f i=mv k m i):OT P w0 env H ⟨d,.build t ps,ty,pos,af,g⟩ (Is (AG N (mv k m)) H):=by
 rw[<- Rn hl];exact Ht hok hz hf
end
end Go.E
namespace Go.E
open Go
section
variable {P:Program} {w0:World} {env:List (Nat×Value)} {H:GH} {d:Option Nat} {t ty:TypeId} {pos:String} {af:Array Edge} {g:Option (Nat×Bool)}
theorem AgL {yt:TypeId} {x y:Operand} {i j c:Int} {k k':IntKind} (hx:ev env x=some (.int k i)) (hy:ev env y=some (.int k' j)) (hj:0<=j/\j.toNat<=k.bits) (hc:(2:Int) ^ j.toNat=c) :
  OT P w0 env H ⟨d,.binOp .shr t x y yt,ty,pos,af,g⟩ (Is (.int k (i / c)) H):=
 aD fun a w ha=>by
  subst hc
  have h1:¬ j<0:=Aa
  have h2:min j.toNat k.bits=j.toNat:=Aa
  have hs:(binOp .shr t (.int k i) (.int k' j)).run P w=.ok (.int k (i / 2 ^ j.toNat)) w:=by
   show(Op.shift .shr k i k' j).run P w=_
   unfold Op.shift
   rw[Af h1]
   simp only[h2,Sem.run_pure]
   rw[Int.fdiv_eq_ediv_of_nonneg i (Int.pow_nonneg Aa)]
  simp only[execOp,ha.ev hx,ha.ev hy,eqGuard]
  simp[hs]
theorem AdN {ag:Bool} {e:TypeId} {v:Value} {l:List Int} {B:GH} {ts:Array TypeId} {by_:Nat} {args:Array Operand} {i:Nat} (ht:App P t e 1 by_ (.int .i64 0)) (hz:ZeroT P e (.int .i64 0)) (hts:ts=#[t]) (hargs:Ui env args.toList=some [Rf v 1 i l.length]) (hJ:OJ e 1 ic B v l) (hi:i<=l.length) :
  OT P w0 env (B++H) ⟨d,.call ⟨.builtin .clear,args,ts⟩,ty,pos,af,g⟩ (fun _ H'=>∃ B',H'=B'++H/\Cov w0 B B'/\OJ e 1 ic B' v (l.take i++List.replicate (l.length-i) 0)):=
 OT.val fun a w ha hs=>by
  subst hts
  have e1:args.map a.eval=#[Rf v 1 i l.length]:=Array.toList_inj.1 (by simpa using La ha _ _ hargs)
  have hexec:(execOp a.eval ⟨d,.call ⟨.builtin .clear,args,#[t]⟩,ty,pos,af,g⟩).run P w=((Builtin.clear_ #[t] ty #[Rf v 1 i l.length]).run P w).andThen fun u w'=>.ok (.value u) w':=by
   simp[execOp,resolve,invoke,builtin,e1]
  have h0:∀ (u:Option Addr) (cc:Nat),(Builtin.clear_ #[t] ty #[.slice u 0 cc]).run P w=.ok (.tuple #[]) w:=by
   intro u cc
   cases u <;> simp[Builtin.clear_,run_underlying ht.u]
  rcases Nat.eq_zero_or_pos (l.length-i) with AA | hmpos
  .have hv:∃ (u:Option Addr) (cc:Nat),Rf v 1 i l.length=.slice u 0 cc:=by
    rcases hJ with ⟨rfl,rfl⟩ | ⟨b,o,cap,N,F,hB,rfl,hlc,hoN,hcm,hF⟩
    .exact⟨(if(0:Nat)=i then none else Option.map (fun(q:Addr)=>q.add (i*1)) none),0-i,by simp only[Rf,AA]⟩
    .exact⟨_,_,by simp only[Rf,AA];rfl⟩
   obtain⟨u,cc,hv⟩:=hv
   refine⟨_,w,B++H,by rw[hexec,hv,h0];rfl,hs,B,rfl,Cov.refl B,?_⟩
   rw[AA,List.take_of_length_le Aa]
   simpa using hJ
  .rcases hJ with ⟨rfl,rfl⟩ | ⟨b,o,cap,N,F,hB,rfl,hlc,hoN,hcm,hF⟩
   .simp at hmpos
   have hcl:¬ cap=i:=Aa
   have EO:Rf (.slice (some ⟨b,o,none⟩) l.length cap) 1 i l.length=.slice (some ⟨b,o+i*1,none⟩) (l.length-i) (cap-i):=by
    simp only[Rf,Af hcl,Option.map_some,Addr.add_lit]
   rw[Nat.mul_one] at EO
   have hbk:w.heap[b]? = some (BK N F e):=hs.own _ _ (List.mem_append_left _ hB)
   have hzl:(Builtin.zeroCells (Value.int .i64 0).cells (l.length-i)).toList.length=(l.length-i):=by
    rw[Array.length_toList,size_zeroCells,ht.z,Nat.mul_one]
   have hget:∀ q,q<l.length-i->(Builtin.zeroCells (Value.int .i64 0).cells (l.length-i)).toList[q]? = some (.int .i64 0):=by
    intro q hq
    simp[Builtin.zeroCells,Value.cells,hq,Nat.mod_one]
   have hoc:∀ u∈(Builtin.zeroCells (Value.int .i64 0).cells (l.length-i)).toList,u.oneCell'=true:=by
    intro u hu
    obtain⟨q,hq,he⟩:=List.getElem_of_mem hu
    have:=hget q Aa
    rw[List.getElem?_eq_getElem hq,he] at this
    have e2:=Option.some.inj this
    rw[e2]
    rfl
   have hst:=run_storeCells_at P b (o+i) e (Builtin.zeroCells (Value.int .i64 0).cells (l.length-i)).toList 0 (CV N F) w hbk (by rw[hzl];simp;omega) hoc
   simp only[Nat.add_zero] at hst
   have hr:(Builtin.clear_ #[t] ty #[.slice (some ⟨b,o+i,none⟩) (l.length-i) (cap-i)]).run P w=.ok (.tuple #[]) (w.setRow b ((CV N F).toList.take (o+i)++(Builtin.zeroCells (Value.int .i64 0).cells (l.length-i)).toList++(CV N F).toList.drop (o+i+(Builtin.zeroCells (Value.int .i64 0).cells (l.length-i)).toList.length)).toArray):=by
    obtain⟨n,hn⟩:∃ n,l.length-i=n+1:=⟨l.length-i-1,Aa⟩
    rw[hn] at hst ⊢
    simp only[Builtin.clear_,Sem.run_bind,run_underlying ht.u,Result.andThen_ok,hz.run]
    simp[run_underlying ht.u,hz.run,hst]
   have hsp:((CV N F).toList.take (o+i)++(Builtin.zeroCells (Value.int .i64 0).cells (l.length-i)).toList++(CV N F).toList.drop (o+i+(Builtin.zeroCells (Value.int .i64 0).cells (l.length-i)).toList.length)).toArray=CV N (J9 F (o+i) (l.length-i) fun _=>.int .i64 0):=
    SC (by rw[hzl];omega) (fun k hk=>by
     rw[hzl] at hk
     simp only[J9]
     rw[Ae Aa,hget k hk]) (fun k _ hh=>by
     rw[hzl] at hh
     simp only[J9];rw[Af Aa])
   obtain⟨B',hB'⟩:=aJ (BK N (J9 F (o+i) (l.length-i) fun _=>.int .i64 0) e) hB
   have hlen:(l.take i++List.replicate (l.length-i) (0:Int)).length=l.length:=by simp;omega
   refine⟨_,_,_,by rw[hexec,EO,hr];rfl,hs.setRow (N:=N) (F:=F) (T:=e) (b:=b) (f':=J9 F (o+i) (l.length-i) fun _=>.int .i64 0) (List.mem_append_left _ hB) hsp hB'.left,B',rfl,Cov.upd hB',?_⟩
   refine .inr ⟨b,o,cap,N,_,hB'.isin,by rw[hlen],by rw[hlen];exact hlc,hoN,hcm,fun q hq=>?_⟩
   rw[hlen] at hq
   have hq':q<l.length:=Aa
   rw[O0 (by rw[hlen];exact hq')]
   simp only[J9]
   by_cases hqi:q<i
   .rw[Af Aa,hF q Aa,O0 hq',List.getElem_append_left (by simp;omega),List.getElem_take]
   .rw[Ae Aa,List.getElem_append_right (by simp;omega),List.getElem_replicate]
    rfl
end
section
variable {P:Program} {n:Nat} {w0:World} {ops:Array Oper} {KS:List Nat} {bX env:HH} {dn:List Nat} {H RS:GH} {Q:Exit->Act->World->Prop}
theorem Si (hok:If n ops=true) (i j:Nat) {o o':Oper} {d:Nat} (l l':HH) (ho:ops[i]? = some o) (ho':ops[j]? = some o') (hd:o.dst=some d) (hd':o'.dst=none) (hf:Mb ops dn=[i,j]) (hl:Live env l) (hl':Live env l') (hs:HO ops dn i (l.map (·.1))=true) (hs':HO ops dn j (l'.map (·.1))=true) (hw:Wt ops l o.guard) (hw':Wt ops l' o'.guard) {R R':Value->GH->Prop} (ht:OT P w0 l H o R) (ht':OT P w0 l' H o' R') (k:∀ v H',R v H'->(∀ x∈RS,x∈H')/\(∀ k∈keys H',k∈KS∨w0.heap.size<=k)/\XD P n w0 ops KS bX (i::dn) ((d,v)::env) H' RS Q) (k':∀ v H',R' v H'->(∀ x∈RS,x∈H')/\(∀ k∈keys H',k∈KS∨w0.heap.size<=k)/\XD P n w0 ops KS bX (j::dn) env H' RS Q):XD P n w0 ops KS bX dn env H RS Q:=by
 intro a0 dl kp hdn hnd he hrs
 refine Lk hok (by rw[hdn];exact hnd) ?_ ?_
 .intro a w listed hr hinv
  exfalso
  have hi:i∈Mb ops dn:=by rw[hf];simp
  obtain⟨h1,h2⟩:=List.mem_filter.1 hi
  have:=J7 hok hinv.lsize hr i (List.mem_range.1 h1)
  obtain⟨p,hp,e⟩:=hinv.inn i this
  simp only[Bool.and_eq_true,Bool.not_eq_true',List.contains_eq_mem,decide_eq_false_iff_not] at h2
  exact h2.1 (by rw[<- hdn];exact List.mem_map.2 ⟨p,hp,e⟩)
 .intro fuel listed a w q hinv hr hni
  have hj:=Lr hinv.lsize hdn hinv.inn hr hni
  rw[hf] at hj
  simp only[List.mem_cons,List.not_mem_nil,or_false] at hj
  rcases hj with rfl | rfl
  .exact Sj hok l ho hl hs hw ht (fun v H' hR=>by rw[hd];exact k v H' hR) kp hdn hnd he hrs hinv hr hni
  .exact Sj hok l' ho' hl' hs' hw' ht' (fun v H' hR=>by rw[hd'];exact k' v H' hR) kp hdn hnd he hrs hinv hr hni
end
section
variable {P:Program} {n:Nat} {w0:World} {env:HH} {H:GH} {Q:Exit->Act->World->Prop}
def AiT (n:Nat) (w0:World) (I:HH->GH->Prop):Exit->Act->World->Prop:=fun ex a w=>ex=.normal/\∃ e H',I e H'/\Ag n e a/\St w0 H' w
theorem WF {c:Code} (I:HH->GH->Prop) (h1:XW P n w0 env H c (AiT n w0 I)) (h2:∀ e H',I e H'->XQ n w0 e H' .normal Q):XW P n w0 env H c Q:=
 fun a w ha hs=>wp_mono (h1 a w ha hs) fun e a' w' ⟨he,e1,H1,hI,ha',hs'⟩=>by subst he;exact h2 e1 H1 hI a' w' ha' hs'
theorem Nh {I:HH->GH->Prop} {e':HH} (H':GH) (hl:Live env e') (hH:∀ w,St w0 H w->St w0 H' w) (hI:I e' H'):XQ n w0 env H .normal (AiT n w0 I):=
 fun a w ha hs=>⟨rfl,e',H',hI,ha.live hl,hH w hs⟩
end
end Go.E
namespace Go.E
open Go
section
variable {α:Type _} {a b:α} {xs bs:List α}
theorem mR (h:a∈bs):a∈xs++bs:=List.mem_append_right xs h
theorem mT (h:a∈xs):a∈b::xs:=List.Mem.tail _ h
theorem mH:a∈a::xs:=List.Mem.head _
variable {p:Nat->Prop}
theorem ZP:∀ i,i<0->p i:=fun i h=>absurd h (Nat.not_lt_zero i)
theorem Ki {n:Nat} (h0:p 0) (h:∀ i,i<n->p (i+1)):∀ i,i<n+1->p i:=fun i hi=>match i,hi with | 0,_=>h0 | k+1,hk=>h k (Nat.lt_of_succ_lt_succ hk)
theorem M2 (h0:p 0) (h1:p 1):∀ i,i<2->p i:=Ki h0 (Ki h1 ZP)
theorem M13 (h0:p 0) (h1:p 1) (h2:p 2) (h3:p 3) (h4:p 4) (h5:p 5) (h6:p 6) (h7:p 7) (h8:p 8) (h9:p 9) (r3:p 10) (oJ:p 11) (DO:p 12):∀ i,i<13->p i:=Ki h0 (Ki h1 (Ki h2 (Ki h3 (Ki h4 (Ki h5 (Ki h6 (Ki h7 (Ki h8 (Ki h9 (Ki r3 (Ki oJ (Ki DO ZP))))))))))))
end
end Go.E
namespace Go.E
open Go
def MM (x:Nat->Value) (i:Nat):Value:=x i
def Se {α:Type} (R:GH->α->(Nat->Value)->Prop):Prop:=∀ A A' x f,(∀ y∈A,y∈A')->R A x f->R A' x f
def NJ {α:Type} [Inhabited α] (T:TypeId) (s:Nat) (R:GH->α->(Nat->Value)->Prop) (B:GH) (v:Value) (l:List α):Prop:=
 ∃ (raws:List (Nat->Value)) (B1 A:GH),B.Perm (B1++A)/\OJ T s MM B1 v raws/\raws.length=l.length/\∀ i,i<l.length->R A (l[i]!) (raws[i]!)
section
variable {α:Type} [Inhabited α] {w0 w:World} {T:TypeId} {s:Nat} {R:GH->α->(Nat->Value)->Prop} {B H:GH} {v:Value} {l:List α}
noncomputable def NJ.raw (h:NJ T s R B v l):List (Nat->Value):=Classical.choose h
theorem NJ.rawS (h:NJ T s R B v l):∃ (B1 A:GH),B.Perm (B1++A)/\OJ T s MM B1 v h.raw/\h.raw.length=l.length/\∀ i,i<l.length->R A (l[i]!) (h.raw[i]!):=Classical.choose_spec h
theorem NJ.nil:NJ T s R B (.slice none 0 0) ([]:List α):=⟨[],[],B,List.Perm.refl _,OJ.nil,rfl,fun i h=>by simp at h⟩
theorem NJ.len (h:NJ T s R B v l):h.raw.length=l.length:=let ⟨_,_,_,_,h3,_⟩:=h.rawS;h3
theorem NJ.val (h:NJ T s R B v l):∃ p cap,v=.slice p l.length cap:=by
 obtain⟨raws,B1,A,hp,hO,hl,hA⟩:=h
 rw[<- hl];exact hO.val
theorem NJ.oj (h:NJ T s R B v l):OJ T s MM B v h.raw:=by
 obtain⟨B1,A,hp,hO,hl,hA⟩:=h.rawS
 exact hO.mono fun x hx=>hp.mem_iff.2 (List.mem_append_left _ hx)
theorem NJ.sl (h:NJ T s R B v l) (hs:St w0 H w) (hB:∀ x∈B,x∈H):SL w s MM v h.raw:=h.oj.sl hs hB
theorem NJ.at (h:NJ T s R B v l) (hm:Se R) {i:Nat} (hi:i<l.length):R B (l[i]!) (h.raw[i]!):=by
 obtain⟨B1,A,hp,hO,hl,hA⟩:=h.rawS
 exact hm A B _ _ (fun y hy=>hp.mem_iff.2 (List.mem_append_right _ hy)) (hA i hi)
theorem NJ.ix (h:NJ T s R B v l) {i:Int} (hi:0<=i/\i<(l.length:Int)):0<=i/\i<(h.raw.length:Int):=by rw[h.len];exact hi
theorem NJ.nilOr (h:NJ T s R B v l):((K7 v=some true/\∀ e,Il (.slice e) v=true)/\l=[])∨(K7 v=some false/\∀ e,Il (.slice e) v=true):=by
 rcases h.oj.nilOr with ⟨h1,h2⟩ | h1
 .refine .inl ⟨h1,?_⟩
  have:=h.len
  rw[h2] at this
  exact List.length_eq_zero_iff.1 this.symm
 .exact .inr h1
theorem NJ.one {b N:Nat} {F f:Nat->Value} {S:GH} {x:α} {o:Obj} (ho:o=BK N F T) (hs:1*s<=N) (hF:∀ i,i<1*s->F i=eG s MM [f] i) (hR:R S x f):NJ T s R ([(b,o)]++S) (.slice (some ⟨b,0,none⟩) 1 1) [x]:=by
 subst ho
 refine⟨[f],[(b,BK N F T)],S,List.Perm.refl _,OJ.lit (List.mem_singleton.2 rfl) rfl hs (by simp[maxLen]) hF,rfl,fun i hi=>?_⟩
 simp only[List.length_singleton] at hi
 obtain rfl:i=0:=Aa
 exact hR
end
def rL {β:Type} (T:TypeId) (s:Nat) (c:β->Nat->Value) (A:GH) (l:List β) (f:Nat->Value):Prop:=OJ T s c A (f 0) l
theorem rL.oj {β:Type} {T:TypeId} {s:Nat} {c:β->Nat->Value} {A:GH} {l:List β} {f:Nat->Value} (h:rL T s c A l f):OJ T s c A (f 0) l:=h
theorem rL.mono {β:Type} {T:TypeId} {s:Nat} {c:β->Nat->Value}:Se (rL T s c):=fun _ _ _ _ hs h=>OJ.mono h hs
section
variable {P:Program} {w0:World} {env:HH} {H:GH}
variable {d:Option Nat} {ty:TypeId} {pos:String} {af:Array Edge} {g:Option (Nat×Bool)} {t:TypeId} {s:Nat}
theorem AgU {e:TypeId} {by_:Nat} {z:Value} {B:GH} {v u:Value} {l l':List (Nat->Value)} {ts:Array TypeId} {args:Array Operand} (ht:App P t e s by_ z) (hts:ts=#[t,t]) (hargs:Ui env args.toList=some [v,u]) (hown:OJ e s MM B v l) (hsrc:∀ w,St w0 (B++H) w->SL w s MM u l') (h1:∀ i,i<l'.length*s->(eG s MM l' i).oneCell'=true) (hby:(l.length+l'.length)*by_<=140737488355328) (hmax:l.length+l'.length<=maxLen) :
  OT P w0 env (B++H) ⟨d,.call ⟨.builtin .append,args,ts⟩,ty,pos,af,g⟩ (fun v' H'=>∃ B',H'=B'++H/\Cov w0 B B'/\OJ e s MM B' v' (l++l')):=by
 intro a w ha hs
 obtain⟨p,cap,hu,_,_,hpn,zN⟩:=hsrc w hs
 subst hu
 have hspos:0<s:=by simpa [Nat.blt_eq] using ht.pos
 have sJ:∀ w',St w0 (B++H) w'->SrcAt w' p (l'.length*s) (eG s MM l'):=by
  intro w' hs'
  obtain⟨p',cap',hu',_,_,_,h⟩:=hsrc w' hs'
  cases hu'
  exact h
 have hj:Oj e s B v l.length (eG s MM l):=by
  rcases hown with ⟨h1,h2⟩ | h
  .exact .inl ⟨h1,by rw[h2];rfl⟩
  .exact .inr h
 have:=AdO (d:=d) (ty:=ty) (pos:=pos) (af:=af) (g:=g) (B:=B) (H:=H) (n:=l.length) (m:=l'.length) ht hts hargs hj sJ h1 hmax hby a w ha hs
 refine I3 ?_ (fun _ _ _ h=>h.elim) this
 rintro a' w' ⟨v',H',rfl,hs',B',rfl,hcov,hown'⟩
 refine⟨v',_,rfl,hs',B',rfl,hcov,?_⟩
 have hx:=hown'.ext (Aez hspos MM l l')
 rcases hx with ⟨h1,h2⟩ | ⟨b,o,cp,N,F,h1,h2⟩
 .exact .inl ⟨h1,by rw[<- List.length_append] at h2;exact List.length_eq_zero_iff.1 h2⟩
 .exact .inr ⟨b,o,cp,N,F,h1,by rw[List.length_append];exact h2⟩
end
section
variable {α:Type} [Inhabited α] {P:Program} {w0:World} {env:HH}
variable {d:Option Nat} {ty:TypeId} {pos:String} {af:Array Edge} {g:Option (Nat×Bool)} {t:TypeId} {s:Nat} {R:GH->α->(Nat->Value)->Prop}
theorem AeF {B B1 A B1' S:GH} (hp:B.Perm (B1++A)) (hc:Cov w0 B1 B1') (hS:Cov w0 [] S):Cov w0 B (B1'++(A++S)):=by
 have hk:∀ k,k∈keys B↔k∈keys B1∨k∈keys A:=fun k=>by
  have:=(hp.map (·.1)).mem_iff (a:=k)
  rw[<- List.mem_append,<- keys_append]
  exact this
 refine⟨fun k h=>?_,fun k h=>?_⟩
 .simp only[keys_append,List.mem_append] at h
  rcases h with h | h | h
  .exact(hc.1 k h).imp (fun h=>(hk k).2 (.inl h)) id
  .exact .inl ((hk k).2 (.inr h))
  .exact .inr (hS.fresh k h)
 .simp only[keys_append,List.mem_append]
  exact((hk k).1 h).imp (hc.2 k) .inl
theorem SX {e:TypeId} {by_:Nat} {z:Value} {B:GH} {Ss Rs:List GH} {v u:Value} {l:List α} {x:α} {f:Nat->Value} {ts:Array TypeId} {args:Array Operand} (ht:App P t e s by_ z) (hts:ts=#[t,t]) (hargs:Ui env args.toList=some [v,u]) (hN:NJ e s R B v l) (hm:Se R) (hR:R (cat Ss) x f) (hS:Cov w0 [] (cat Ss)) (hsrc:∀ w,St w0 (cat (B::(Ss++Rs))) w->SL w s MM u [f]) (h1:∀ i,i<s->(f i).oneCell'=true) (hby:(l.length+1)*by_<=140737488355328) (hmax:l.length+1<=maxLen) :
  OT P w0 env (cat (B::(Ss++Rs))) ⟨d,.call ⟨.builtin .append,args,ts⟩,ty,pos,af,g⟩ (fun v' H'=>∃ B',H'=cat (B'::Rs)/\Cov w0 B B'/\NJ e s R B' v' (l++[x])/\∀ y∈cat Ss,y∈B'):=by
 obtain⟨raws,B1,A,hp,hO,hl,hA⟩:=hN
 have e1:∀ w,St w0 (cat (B::(Ss++Rs))) w↔St w0 (B1++(A++(cat Ss++cat Rs))) w:=by
  intro w
  have hperm:(cat (B::(Ss++Rs))).Perm (B1++(A++(cat Ss++cat Rs))):=by
   show(B++cat (Ss++Rs)).Perm _
   rw[Lz,<- List.append_assoc B1 A]
   exact List.Perm.append_right _ hp
  exact⟨fun h=>h.perm hperm,fun h=>h.perm hperm.symm⟩
 have hspos:0<s:=by simpa [Nat.blt_eq] using ht.pos
 intro a w ha hs
 have h1':∀ i,i < [f].length*s->(eG s MM [f] i).oneCell'=true:=by
  intro i hi
  simp only[List.length_singleton,Nat.one_mul] at hi
  have:i / s=0:=Nat.div_eq_of_lt hi
  simp only[eG,this,List.getElem?_cons_zero,Option.elim_some,MM,Nat.mod_eq_of_lt hi]
  exact h1 i hi
 have:=AgU (d:=d) (ty:=ty) (pos:=pos) (af:=af) (g:=g) (H:=A++(cat Ss++cat Rs)) (l:=raws) (l':=[f]) ht hts hargs hO (fun w hw=>hsrc w ((e1 w).2 hw)) h1' (by rw[hl];exact hby) (by rw[hl];exact hmax) a w ha ((e1 w).1 hs)
 refine I3 ?_ (fun _ _ _ h=>h.elim) this
 rintro a' w' ⟨v',H',rfl,hs',B1',rfl,hcov,hO'⟩
 refine⟨v',cat ((B1'++(A++cat Ss))::Rs),rfl,?_,_,rfl,AeF hp hcov hS,⟨raws++[f],B1',A++cat Ss,List.Perm.refl _,hO',by simp[hl],fun i hi=>?_⟩,fun y hy=>by simp[hy]⟩
 .show St w0 ((B1'++(A++cat Ss))++cat Rs) w'
  simpa only[List.append_assoc] using hs'
 .by_cases hlt:i<l.length
  .have e2:(l++[x])[i]! = l[i]!:=by simp[List.getElem?_append_left hlt]
   have e3:(raws++[f])[i]! = raws[i]!:=by simp[List.getElem?_append_left (show i<raws.length by omega)]
   rw[e2,e3]
   exact hm A _ _ _ (fun y hy=>List.mem_append_left _ hy) (hA i hlt)
  .simp only[List.length_append,List.length_singleton] at hi
   obtain rfl:i=l.length:=Aa
   have e2:(l++[x])[l.length]! = x:=Ad
   have e3:(raws++[f])[l.length]! = f:=by rw[<- hl];simp
   rw[e2,e3]
   exact hm _ _ _ _ (fun y hy=>List.mem_append_right _ hy) hR
end
end Go.E
namespace Go.E
open Go Go.Proofs Go.Shelf Go.RowKit Go.Proofs.Tryz
def Hu {α:Type} (d:List (Int×α)):List Int:=(d.map (·.1)).mergeSort leI
def NC {α:Type} (d:List (Int×α)):Prop:=(∀ p∈d,GN p.1)/\d.length<=1000000000000
def AfU:Value->Option (DataW Unit×List MemPlace):=fun _=>some (.nil,[])
theorem AgB {x:Int} (h:GN x):(Lit.int .i64 x).wf=true:=by
 have e:(Lit.int .i64 x).wf=(decide (IntKind.i64.min<=x)&&decide (x<=IntKind.i64.max)):=rfl
 have e1:IntKind.i64.min=-9223372036854775808:=Ab
 have e2:IntKind.i64.max=9223372036854775807:=Ab
 rw[e,e1,e2,decide_eq_true h.1,decide_eq_true h.2]
 rfl
section
variable {P:Program} {ρ ρm:Ren} {α:Type} {cv:α->Value}
theorem ZK {d:List (Int×α)} {o:Obj} {b:Nat} {k:TypeId} {w:World} (hk:P.underlying k=some (.int .i64)) (hM:MO kI cv HT d o) (hb:w.heap[b]? = some o) (hP:NC d) :
  ∃ D:DataW Unit,w.ownsMap P k AfU b d.length D/\(intKeys D).Perm (d.map (·.1))/\Maps.size D=d.length:=by
 obtain⟨es,clock,rfl,he,hborn,hnd,hpw⟩:=hM
 have hlen:es.size=d.length:=by
  have:=congrArg List.length he
  simpa using this
 have hkeys:es.toList.map (·.key)=d.map (fun p=>kI p.1):=by
  have:=congrArg (List.map Prod.fst) he
  simpa [List.map_map,Function.comp_def] using this
 have hrd:∀ x∈es.toList,∃ n:Int,x.key=.int .i64 n/\GN n:=by
  intro x hx
  have:x.key∈es.toList.map (·.key):=List.mem_map.2 ⟨x,hx,rfl⟩
  rw[hkeys] at this
  obtain⟨p,hp,e⟩:=List.mem_map.1 this
  exact⟨p.1,e.symm,hP.1 p hp⟩
 have hrg:∀ x∈es.toList,∀ n:Int,x.key=.int .i64 n->WideElems.rd P k AfU x=some (.int .i64 n,.nil):=by
  intro x hx n hn
  obtain⟨m,hm,hmi⟩:=hrd x hx
  rw[hm] at hn
  cases hn
  unfold WideElems.rd
  rw[hm,Maps.keyOf_int_mk hk (AgB hmi)]
  rfl
 have hF:WideElems.Fit P k AfU es clock:=by
  refine⟨by rw[hlen];have:=hP.2;unfold maxLen;omega,⟨hborn,hnd,?_⟩,fun x hx=>?_⟩
  .rw[hkeys]
   refine List.pairwise_map.2 (hpw.imp fun {p q} h e=>?_)
   have:p.1=q.1:=by simpa [kI] using e
   simp[HT,this] at h
  .obtain⟨n,hn,_⟩:=hrd x hx
   exact⟨_,hrg x hx n hn⟩
 refine⟨_,⟨es,clock,hb,hF,Aa,rfl⟩,?_,?_⟩
 .show(List.map (fun p:Lit×DataW Unit=>Go.intOf p.1) _).Perm _
  refine((WideShapes.sorted_perm _).map _).trans ?_
  rw[List.map_map]
  have:es.toList.map ((fun p:Lit×DataW Unit=>Go.intOf p.1)∘WideElems.rg P k AfU)=es.toList.map (fun x=>match x.key with | .int _ n=>n | _=>0):=by
   refine List.map_congr_left fun x hx=>?_
   obtain⟨n,hn,_⟩:=hrd x hx
   simp only[Function.comp_apply]
   rw[WideElems.rg_of (hrg x hx n hn),hn]
   rfl
  rw[this]
  have h2:es.toList.map (fun x=>match x.key with | .int _ n=>n | _=>0)=(es.toList.map (·.key)).map (fun v=>match v with | .int _ n=>n | _=>0):=by
   rw[List.map_map];rfl
  rw[h2,hkeys,List.map_map]
  exact List.Perm.refl _
 .show List.length _=_
  rw[(WideShapes.sorted_perm _).length_eq]
  simp[hlen]
theorem Aak {f:FuncId} {args:Array Value} {w:World} {T:TypeId} {l:List Int} (h:Calls P f args w fun e w'=>∃ (v:Value) (ss:List Int),e=.returned v/\ss.mergeSort leI=l/\ss.length=l.length /\
   w'.ownsRow w.heap.size T 1 v ss.length (l.map encZ)/\Below w.heap.size w w') :
  Con P f args w (fun v F=>∃ u C,v=u/\F=C/\OJ T 1 ic C u l/\Cov w [] C):=by
 refine Calls.mono h ?_
 rintro e w' ⟨v,ss,rfl,hs,hl,hrow,hb⟩
 rcases hrow.2 with ⟨rfl,hz⟩ | ⟨g,cap,cur,rfl,hbase,hg,h1,h2,h3,h4⟩
 .refine⟨_,[],rfl,⟨hb.os,hb.tape,hb.output,hb.size,fun _ _ h=>absurd h Ad,List.nodup_nil,fun k hk _=>hb.block k hk⟩,_,[],rfl,rfl,?_,Cov.refl _⟩
  rw[List.eq_nil_of_length_eq_zero (hl.symm.trans hz)]
  exact OJ.nil
 .have hcur:cur=CV cur.size (fun i=>cur.getD i undef):=AbF cur
  have hBK:w'.heap[g]? = some (BK cur.size (fun i=>cur.getD i undef) T):=by
   unfold BK
   rw[<- hcur];exact hg
  refine⟨_,[(g,BK cur.size (fun i=>cur.getD i undef) T)],rfl,⟨hb.os,hb.tape,hb.output,hb.size,?_,Ad,fun k hk _=>hb.block k hk⟩,_,_,rfl,rfl,?_,aO ?_⟩
  .intro b o hm
   cases List.mem_singleton.1 hm
   exact hBK
  .refine .inr ⟨g,0,cap,_,_,List.mem_singleton.2 rfl,by rw[hl],Aa,Aa,h2,fun i hi=>?_⟩
   rw[Nat.mul_one] at hi
   have e1:(cur.toList.take (ss.length*1))[i]? = (l.map encZ)[i]?:=by rw[h4]
   rw[Nat.mul_one,List.getElem?_take_of_lt Aa,List.getElem?_map,List.getElem?_eq_getElem hi] at e1
   have e2:eG 1 ic l i=.int .i64 l[i]:=O0 hi
   rw[e2,Nat.zero_add,Array.getD_eq_getD_getElem?,<- Array.getElem?_toList,e1]
   rfl
  .intro k hk
   simp only[keys_cons,keys_nil,List.mem_singleton] at hk
   omega
theorem Vy (LK:SlLaysZI.n10 P ρ) (LS:SlLaysZI.n6 P ρ) (LM:SlLaysM.n5 P ρm) (hf:ρm.f 5=ρ.f 9) (e9:Enters P (ρ.f 9)) (u7:Enters P (ρ.f 10)) {w:World} {Bm b:Nat} {T:TypeId} {o:Obj} {d:List (Int×α)} (hm:w.heap[Bm]? = some (BK 1 (fun _=>.map (some b)) T)) (hb:w.heap[b]? = some o) (hM:MO kI cv HT d o) (hP:NC d) :
  Con P (ρ.f 6) #[.func (.func (ρ.f 10)) #[] #[.pointer (some ⟨Bm,0,none⟩)]] w (fun v F=>∃ u C,v=u/\F=C/\OJ (ρ.t 26) 1 ic C u (Hu d)/\Cov w [] C):=by
 obtain⟨D,hown,hperm,hsz⟩:=ZK (cv:=cv) LK.t26 hM hb hP
 have hBm:Bm<w.heap.size:=(Array.getElem?_eq_some_iff.1 hm).1
 have hcell:w.cell? ⟨Bm,0,none⟩=some (.map (some b)):=Kc hm Aa
 have hseq:SeqGives Fence.wide 2 P (ρ.f 10) #[.pointer (some ⟨Bm,0,none⟩)] encZ (fun ss=>ss.Perm (intKeys D)) (Maps.size D) w:=
  AnyZI.keys_gives LK Fence.wide 2 trivial rfl Aa Bm b _ D w hBm hcell hown
 have hsort:∀ m,AnyZI.SortsIn P ρ Fence.wide m:=fun m=>
  ⟨fun blk off cap ss W hH hblk hsz=>callsIn_wide.2 (hf▸AnyM.slices_Sort_int LM blk off cap ss W hH hblk hsz),
   fun p cap W=>callsIn_wide.2 (hf▸AnyM.slices_Sort_int_none LM p cap W)⟩
 have hd:=hP.2
 have cS:=AnyZI.sorted_in LS Fence.wide 5 trivial trivial trivial trivial rfl Aa (hsort _) e9 (ρ.f 10) #[.pointer (some ⟨Bm,0,none⟩)] trivial u7 _ (Maps.size D) (by rw[hsz];unfold maxLen;omega) (by rw[hsz];omega) w hseq
 refine Aak (Calls.mono (callsIn_wide.1 cS) ?_)
 rintro e w' ⟨v,ss,rfl,hS,hrow,hnil,hbl⟩
 have hp:ss.Perm (d.map (·.1)):=hS.trans hperm
 have hms:ss.mergeSort leI=Hu d:=mergeSort_of_perm_i hp
 refine⟨v,ss,rfl,hms,?_,?_,hbl⟩
 .rw[<- hms,List.length_mergeSort]
 .rw[<- hms];exact hrow
theorem AcV {P:Program} {n:Nat} {w0:World} {env:HH} {H:GH} {c:Code} {Q:Exit->Act->World->Prop} (h:XW P n w0 env H c (Exit.noGoto Q)):XW P n w0 env H (.scope c) Q:=fun a w ha hs=>wp_scope_straight (h a w ha hs)
theorem Un {n:Nat} {w0:World} {env:HH} {H:GH} {Q:Exit->Act->World->Prop} (h:XQ n w0 env H .ret Q):XQ n w0 env H .ret (Exit.noGoto Q):=h
theorem aF {f:FuncId} {args:Array Value} {w:World} {V:Value->Value} {Jc:Value->GH->Prop} (h:Con P f args w (fun v F=>∃ (u:Value) (C:GH),v=V u/\F=(C++[])/\Jc u C/\Cov w [] C)) :
  Con P f args w (IF fun v Ls=>Cov w (cat []) (cat Ls)/\∃ (u:Value) (C:GH),v=V u/\Ls=[C]/\Jc u C/\Cov w [] C):=
 h.mono fun v F ⟨u,C,h1,h2,h3,h4⟩=>⟨[C],h2,by simpa [cat] using h4,u,C,h1,rfl,h3,h4⟩
theorem TW (LK:SlLaysZI.n10 P ρ) (LS:SlLaysZI.n6 P ρ) (LM:SlLaysM.n5 P ρm) (hf:ρm.f 5=ρ.f 9) (e9:Enters P (ρ.f 9)) (u7:Enters P (ρ.f 10)) {w:World} {Bm:Nat} {T:TypeId} {v:Value} {B:GH} {d:List (Int×α)} (hm:w.heap[Bm]? = some (BK 1 (fun _=>v) T)) (hJ:MJ kI cv HT B v d) (hB:∀ x∈B,w.heap[x.1]? = some x.2) (hP:NC d) :
  Con P (ρ.f 6) #[.func (.func (ρ.f 10)) #[] #[.pointer (some ⟨Bm,0,none⟩)]] w (fun v F=>∃ (u:Value) (C:GH),v=u/\F=(C++[])/\OJ (ρ.t 26) 1 ic C u (Hu d)/\Cov w [] C):=by
 obtain⟨b,o,rfl,rfl,hM⟩:=hJ
 exact(Vy LK LS LM hf e9 u7 hm (hB (b,o) (List.mem_singleton.2 rfl)) hM hP).mono fun v F ⟨u,C,h1,h2,h3⟩=>⟨u,C,h1,by simp[h2],h3⟩
end
end Go.E
namespace Go.E
open Go
def PW {α β:Type} (Q:α->β->Prop):List (Int×α)->List (Int×β)->Prop
 | [],[]=>True
 | p::d,q::r=>p.1=q.1/\Q p.2 q.2/\PW Q d r
 | _,_=>False
section
variable {α β:Type} {Q Q':α->β->Prop}
theorem PW.imp (h:∀ a b,Q a b->Q' a b):∀ {d:List (Int×α)} {r:List (Int×β)},PW Q d r->PW Q' d r
 | [],[],_=>trivial
 | _::_,_::_,⟨h1,h2,h3⟩=>⟨h1,h _ _ h2,PW.imp h h3⟩
 | [],_::_,h=>h.elim
 | _::_,[],h=>h.elim
theorem PW.keys:∀ {d:List (Int×α)} {r:List (Int×β)},PW Q d r->r.map (·.1)=d.map (·.1)
 | [],[],_=>rfl
 | _::_,_::_,⟨h1,h2,h3⟩=>by rw[List.map_cons,List.map_cons,PW.keys h3,h1]
 | [],_::_,h=>h.elim
 | _::_,[],h=>h.elim
theorem PW.get {z:α} {z':β} (hz:Q z z') (k:Int):∀ {d:List (Int×α)} {r:List (Int×β)},PW Q d r->Q (H5 HT d k z) (H5 HT r k z')
 | [],[],_=>hz
 | p::d,q::r,⟨h1,h2,h3⟩=>by
  have:=PW.get hz k h3
  unfold H5 at this ⊢
  unfold Lj
  rw[<- h1]
  by_cases h:HT k p.1=true
  .rw[Ae h,Ae h];exact h2
  .rw[Af h,Af h];exact this
 | [],_::_,h=>h.elim
 | _::_,[],h=>h.elim
theorem PW.has (k:Int):∀ {d:List (Int×α)} {r:List (Int×β)},PW Q d r->KZ HT r k=KZ HT d k
 | [],[],_=>rfl
 | p::d,q::r,⟨h1,h2,h3⟩=>by
  have:=PW.has k h3
  unfold KZ at this ⊢
  unfold Lj
  rw[<- h1]
  by_cases h:HT k p.1=true
  .rw[Ae h,Ae h];rfl
  .rw[Af h,Af h];exact this
 | [],_::_,h=>h.elim
 | _::_,[],h=>h.elim
theorem PW.set {a:α} {b:β} (hab:Q a b) (k:Int):∀ {d:List (Int×α)} {r:List (Int×β)},PW Q d r->PW Q (IH HT d k a) (IH HT r k b)
 | [],[],_=>⟨rfl,hab,trivial⟩
 | p::d,q::r,⟨h1,h2,h3⟩=>by
  unfold IH
  rw[<- h1]
  by_cases h:HT k p.1=true
  .rw[Ae h,Ae h];exact⟨rfl,hab,h3⟩
  .rw[Af h,Af h];exact⟨h1,h2,PW.set hab k h3⟩
 | [],_::_,h=>h.elim
 | _::_,[],h=>h.elim
end
def NM {α:Type} (n:Nat) (R:GH->α->(Nat->Value)->Prop) (B:GH) (v:Value) (d:List (Int×α)):Prop:=
 ∃ (raws:List (Int×(Nat->Value))) (B1 A:GH),B.Perm (B1++A)/\MJ kI (AG n) HT B1 v raws/\PW (R A) d raws
section
variable {α:Type} {w0 w:World} {n:Nat} {R:GH->α->(Nat->Value)->Prop} {B H:GH} {v:Value} {d:List (Int×α)}
noncomputable def NM.raw (h:NM n R B v d):List (Int×(Nat->Value)):=Classical.choose h
theorem NM.rawS (h:NM n R B v d):∃ (B1 A:GH),B.Perm (B1++A)/\MJ kI (AG n) HT B1 v h.raw/\PW (R A) d h.raw:=Classical.choose_spec h
theorem NM.nil (h:MJ kI (AG n) HT B v []):NM n R B v []:=⟨[],B,[],Ad,h,trivial⟩
theorem NM.val (h:NM n R B v d):∃ b,v=.map (some b):=let ⟨_,_,_,h,_⟩:=h.rawS;h.val
theorem NM.one (h:NM n R B v d):v.oneCell'=true:=let ⟨_,_,_,h,_⟩:=h.rawS;h.one
noncomputable def NM.get (h:NM n R B v d) (k:Int) (zf:Nat->Value):Nat->Value:=H5 HT h.raw k zf
theorem NM.at (h:NM n R B v d) (hm:Se R) (k:Int) {z:α} {zf:Nat->Value} (hz:R [] z zf):R B (H5 HT d k z) (h.get k zf):=by
 obtain⟨B1,A,hp,hM,hA⟩:=h.rawS
 have:=PW.get (Q:=R A) (hm [] A _ _ (fun y hy=>by simp at hy) hz) k hA
 exact hm A B _ _ (fun y hy=>hp.mem_iff.2 (List.mem_append_right _ hy)) this
theorem NM.keys (h:NM n R B v d):∃ (B1:GH),(∀ x∈B1,x∈B)/\MJ kI (AG n) HT B1 v h.raw/\Hu h.raw=Hu d/\(NC d->NC h.raw):=by
 obtain⟨B1,A,hp,hM,hA⟩:=h.rawS
 have hk:=hA.keys
 refine⟨B1,fun x hx=>hp.mem_iff.2 (List.mem_append_left _ hx),hM,by unfold Hu;rw[hk],fun⟨h1,h2⟩=>⟨fun p hp'=>?_,?_⟩⟩
 .have:p.1∈d.map (·.1):=by rw[<- hk];exact List.mem_map_of_mem hp'
  obtain⟨q,hq,e⟩:=List.mem_map.1 this
  rw[<- e];exact h1 q hq
 .have:=congrArg List.length hk
  simp only[List.length_map] at this
  omega
end
section
variable {α:Type} {P:Program} {w0:World} {env:HH} {H:GH}
variable {d:Option Nat} {ty:TypeId} {pos:String} {af:Array Edge} {g:Option (Nat×Bool)} {t kt et:TypeId} {x y u:Operand} {n:Nat} {R:GH->α->(Nat->Value)->Prop} {B:GH} {v:Value} {m:List (Int×α)} {k:Int}
theorem QD {zf f:Nat->Value} (hk:KeyT P kt kI HT) (hu:P.underlying t=some (.map kt et)) (hz:ZeroT P et (AG n zf)) (hx:ev env x=some v) (hy:ev env y=some (kI k)) (hN:NM n R B v m) (hB:∀ q∈B,q∈H) (hf:∀ i,i<n->hN.get k zf i=f i) :
  OT P w0 env H ⟨d,.lookup t x y false,ty,pos,af,g⟩ (Is (AG n f) H):=by
 obtain⟨B1,A,hp,hM,hA⟩:=hN.rawS
 rw[<- Rn hf]
 exact Ai8 (z:=zf) hk hu hz hx hy hM fun q hq=>hB q (hp.mem_iff.2 (List.mem_append_left _ hq))
theorem Aft {zf f:Nat->Value} {b:Bool} (hk:KeyT P kt kI HT) (hu:P.underlying t=some (.map kt et)) (hz:ZeroT P et (AG n zf)) (hx:ev env x=some v) (hy:ev env y=some (kI k)) (hN:NM n R B v m) (hB:∀ q∈B,q∈H) (hf:∀ i,i<n->hN.get k zf i=f i) (hb:KZ HT m k=b) :
  OT P w0 env H ⟨d,.lookup t x y true,ty,pos,af,g⟩ (Is (.tuple #[AG n f,.bool b]) H):=by
 subst hb
 obtain⟨B1,A,hp,hM,hA⟩:=hN.rawS
 rw[<- Rn hf,<- hA.has k]
 exact AgQ (z:=zf) hk hu hz hx hy hM fun q hq=>hB q (hp.mem_iff.2 (List.mem_append_left _ hq))
theorem AfP {B B1 A B1' S:GH} (hp:B.Perm (B1++A)) (hc:Cov w0 B1 B1'):Cov w0 (B++S) (B1'++(A++S)):=by
 have hk:∀ k,k∈keys B↔k∈keys B1∨k∈keys A:=fun k=>by
  have:=(hp.map (·.1)).mem_iff (a:=k)
  rw[<- List.mem_append,<- keys_append]
  exact this
 refine⟨fun k h=>?_,fun k h=>?_⟩
 .simp only[keys_append,List.mem_append] at h ⊢
  rcases h with h | h | h
  .exact(hc.1 k h).imp (fun h=>.inl ((hk k).2 (.inl h))) id
  .exact .inl (.inl ((hk k).2 (.inr h)))
  .exact .inl (.inr h)
 .simp only[keys_append,List.mem_append] at h ⊢
  rcases h with h | h
  .exact((hk k).1 h).imp (hc.2 k) .inl
  .exact .inr (.inr h)
theorem LY {B S B':GH} (h:Cov w0 (B++S) B') (hS:Cov w0 [] S):Cov w0 B B':=
 ⟨fun k hk=>(h.1 k hk).elim (fun h=>by
  rw[keys_append,List.mem_append] at h
  exact h.imp id (hS.fresh k)) .inr,fun k hk=>h.2 k (by rw[keys_append];exact List.mem_append_left _ hk)⟩
def Aau (Ss:List GH) (R:GH):GH:=Ss.foldr (fun S R=>S++R) R
theorem VM (R:GH):∀ (Ss:List GH),Aau Ss R=cat Ss++R
 | []=>rfl
 | S::Ss=>by
  show S++Aau Ss R=(S++cat Ss)++R
  rw[VM R Ss,List.append_assoc]
theorem Cov.move {A A' R R':GH} (Ss:List GH) (h:Cov w0 (A++cat Ss) A') (k:Cov w0 R R'):Cov w0 (A++Aau Ss R) (A'++R'):=by
 rw[VM,<- List.append_assoc]
 exact h.app k
theorem Cov.permJ (σ:List Nat) (L:List GH) {B:GH} (h:Cov w0 (cat (σ.map fun i=>L.getD i [])) B) (hp:List.isPerm σ (List.range L.length)=true:=by kernel_rfl):Cov w0 (cat L) B:=by
 have h1:=(List.isPerm_iff.1 hp).map (fun i=>L.getD i [])
 rw[PF] at h1
 have hk:∀ k,k∈keys (cat L)↔k∈keys (cat (σ.map fun i=>L.getD i [])):=fun k=>((Y3 h1).symm.map (·.1)).mem_iff
 exact⟨fun k hh=>(h.1 k hh).imp (hk k).2 id,fun k hh=>h.2 k ((hk k).1 hh)⟩
theorem AaX {Ss Rs:List GH} {e:α} {f:Nat->Value} (hk:KeyT P kt kI HT) (hu:P.underlying t=some (.map kt et)) (hx:ev env x=some v) (hy:ev env y=some (kI k)) (hz:ev env u=some (AG n f)) (hN:NM n R B v m) (hm:Se R) (hR:R (cat Ss) e f) :
  OT P w0 env (cat (B::(Ss++Rs))) ⟨d,.mapUpdate t x y u,ty,pos,af,g⟩ (fun _ H'=>∃ B',H'=cat (B'::Rs)/\Cov w0 (B++cat Ss) B'/\NM n R B' v (IH HT m k e)/\∀ q∈cat Ss,q∈B'):=by
 obtain⟨raws,B1,A,hp,hM,hA⟩:=hN
 have e1:∀ w,St w0 (cat (B::(Ss++Rs))) w->St w0 (B1++(A++(cat Ss++cat Rs))) w:=by
  intro w h
  have hperm:(cat (B::(Ss++Rs))).Perm (B1++(A++(cat Ss++cat Rs))):=by
   show(B++cat (Ss++Rs)).Perm _
   rw[Lz,<- List.append_assoc B1 A]
   exact List.Perm.append_right _ hp
  exact h.perm hperm
 intro a w ha hs
 have:=AgN (d:=d) (ty:=ty) (pos:=pos) (af:=af) (g:=g) (R:=A++(cat Ss++cat Rs)) (e:=f) hk hu hx hy hz hM a w ha (e1 w hs)
 refine I3 ?_ (fun _ _ _ h=>h.elim) this
 rintro a' w' ⟨v',H',rfl,hs',B1',rfl,hcov,hM'⟩
 refine⟨v',cat ((B1'++(A++cat Ss))::Rs),rfl,?_,_,rfl,AfP hp hcov,⟨IH HT raws k f,B1',A++cat Ss,List.Perm.refl _,hM',?_⟩,fun y hy=>by simp[hy]⟩
 .show St w0 ((B1'++(A++cat Ss))++cat Rs) w'
  simpa only[List.append_assoc] using hs'
 .exact PW.set (hm _ _ _ _ (fun y hy=>List.mem_append_right _ hy) hR) k (hA.imp fun a b h=>hm A _ _ _ (fun y hy=>List.mem_append_left _ hy) h)
end
end Go.E
