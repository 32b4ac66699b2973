/- Part 2 of the proof. -/
import Derived.Test.YtljklmlodfbdnaaGreatJ1
import Derived.LoopN
import Derived.MapKept
import Derived.WalkKit
import Derived.ProofKit
import Derived.OpenShut
import Derived.SizedLaws
import Derived.Test.YtljklmlodfbdnaaGreatRows
import Derived.Shelf.SlIterI.Nil
import Derived.Shelf.SortM.Plain
import Derived.Shelf.SortM.SortNone
import Derived.Scope
set_option maxHeartbeats 1000000
set_option maxRecDepth 100000
set_option linter.unusedVariables false
set_option linter.unusedSimpArgs false
set_option linter.unusedSectionVars false
set_option linter.unnecessarySimpa false
namespace Go.E
open Go
def eG {α : Type} (s : Nat) (c : α → Nat → Value) (l : List α) : Nat → Value := fun i=>(l[i / s]?).elim undef (fun a=>c a (i % s))
def ic (x : Int) : Nat → Value := fun _=>.int .i64 x
theorem eG_at {α : Type} {s j k : Nat} {c : α → Nat → Value} {l : List α} (hj : j < l.length) (hk : k < s) : eG s c l (j * s + k)=c l[j] k := by
 have h1 : (j * s + k) / s=j := by rw [Nat.mul_comm,Nat.mul_add_div (by omega),Nat.div_eq_of_lt hk,Nat.add_zero]
 have h2 : (j * s + k) % s=k := by rw [Nat.mul_comm,Nat.mul_add_mod,Nat.mod_eq_of_lt hk]
 simp only [eG,h1,h2,List.getElem?_eq_getElem hj,Option.elim_some]
theorem eG_one {α : Type} {j : Nat} {c : α → Nat → Value} {l : List α} (hj : j < l.length) : eG 1 c l j=c l[j] 0 := by
 have := eG_at (c := c) (s := 1) (k := 0) hj (by omega)
 simpa using this
theorem eG_app {α : Type} {s : Nat} (hs : 0 < s) (c : α → Nat → Value) (l l' : List α) : ∀ i,i < (l.length + l'.length) * s → app (eG s c l) (l.length * s) (eG s c l') i=eG s c (l++l') i := by
 intro i _
 simp only [app,eG]
 by_cases h : i < l.length * s
 ·rw [if_pos h,List.getElem?_append_left (by rw [Nat.div_lt_iff_lt_mul hs]; exact h)]
 ·rw [if_neg h]
  have hle : l.length * s≤i := Nat.le_of_not_lt h
  have h1 : (i - l.length * s) / s=i / s - l.length := by
   rw [Nat.mul_comm,Nat.sub_mul_div]
  have h2 : (i - l.length * s) % s=i % s := by
   rw [Nat.mul_comm,Nat.sub_mul_mod]; rw [Nat.mul_comm]; exact hle
  rw [h1,h2,List.getElem?_append_right (by rw [Nat.le_div_iff_mul_le hs]; exact hle)]
def OL {α : Type} (w0 : World) (T : TypeId) (s : Nat) (c : α → Nat → Value) (B : GH) (v : Value) (l : List α) : Prop := Own w0 T s B v l.length (eG s c l)
def SL {α : Type} (w : World) (s : Nat) (c : α → Nat → Value) (v : Value) (l : List α) : Prop := Sl w s v l.length (eG s c l)
section
variable {α : Type} {w0 w : World} {T : TypeId} {s : Nat} {c : α → Nat → Value} {B H A C : GH} {v : Value} {l : List α}
theorem OL.nil : OL w0 T s c [] (.slice none 0 0) ([] : List α) := Own.nil _
theorem SL.nil : SL w s c (.slice none 0 0) ([] : List α) := Sl.nil _
theorem OL.fresh (h : OL w0 T s c B v l) : ∀ b,b ∈ keys B → w0.heap.size≤b := Own.fresh h
theorem OL.val (h : OL w0 T s c B v l) : ∃ p cap,v=.slice p l.length cap := (Own.val h).imp fun _ h=>h.imp fun _ h=>h.1
theorem SL.keep (h : SL w0 s c v l) (hs : St w0 H w) (hn : ∀ b,b ∈ keys H → w0.heap.size≤b) : SL w s c v l := Sl.keep h hs hn
theorem SL.val (h : SL w s c v l) : ∃ p cap,v=.slice p l.length cap := let ⟨p,cap,h,_⟩ := h; ⟨p,cap,h⟩
theorem OL.base {w1 : World} (h : OL w1 T s c B v l) (hw : w0.heap.size≤w1.heap.size) : OL w0 T s c B v l := by
 rcases h with h | ⟨b,o,cp,N,F,h1,h2,h3⟩
 ·exact .inl h
 ·exact .inr ⟨b,o,cp,N,F,h1,Nat.le_trans hw h2,h3⟩
theorem OL.new {b n : Nat} {F : Nat → Value} (hb : w0.heap.size≤b) (hl : n=l.length) (hm : Nat.ble n 4611686018427387904=true) (hF : ∀ i,i < n * s → F i=eG s c l i) : OL w0 T s c [(b,BK (n * s) F T)] (.slice (some ⟨b,0,none⟩) n n) l := by
 subst hl
 exact Own.mk hb (Nat.le_refl _) (by omega) (by have := Nat.le_of_ble_eq_true hm; unfold maxLen; omega) (fun i hi=>by rw [Nat.zero_add]; exact hF i hi)
theorem SL.lit {w' : World} {b n N : Nat} {F : Nat → Value} (hs : St w0 H w') (hm : (b,BK N F T) ∈ H) (hl : n=l.length) (hN : n * s≤N) (hmx : n≤maxLen) (hF : ∀ i,i < n * s → F i=eG s c l i) : SL w' s c (.slice (some ⟨b,0,none⟩) n n) l := by
 subst hl
 exact ⟨_,_,rfl,Nat.le_refl _,hmx,(fun h=>by cases h),SrcAt.own hs hm (by omega) fun i hi=>by rw [Nat.zero_add]; exact hF i hi⟩
theorem SL.sub {w' : World} {b o n cap N : Nat} {F : Nat → Value} (hs : St w0 H w') (hm : (b,BK N F T) ∈ H) (hl : n=l.length) (hcap : n≤cap) (hmx : cap≤maxLen) (hN : o + n * s≤N) (hF : ∀ i,i < n * s → F (o + i)=eG s c l i) : SL w' s c (.slice (some ⟨b,o,none⟩) n cap) l := by
 subst hl
 exact ⟨_,_,rfl,hcap,hmx,(fun h=>by cases h),SrcAt.own hs hm hN hF⟩
@[simp] theorem keys_append (A B : GH) : keys (A++B)=keys A++keys B := List.map_append
theorem St.perm {H' : GH} (h : St w0 H w) (hp : H.Perm H') : St w0 H' w :=
 ⟨h.os,h.tape,h.out,h.size,fun b o hm=>h.own b o (hp.mem_iff.2 hm),(hp.map _).nodup_iff.1 h.nd,fun k hk hkn=>h.keep k hk fun hh=>hkn ((hp.map (·.1)).mem_iff.1 hh)⟩
theorem Mg.news {w1 : World} {F H' : GH} (hB : ∀ k,k ∈ keys B → w1.heap.size≤k) (h : Mg w0 w1 H F H') : Mg w0 w1 H (B++F) (B++H') := by
 induction B with
 | nil=>exact h
 | cons x B ih =>
  obtain ⟨b,o⟩ := x
  exact .new (hB b (by simp)) (ih fun k hk=>hB k (by simp [hk]))
theorem Upd.seg {b : Nat} {o : Obj} {H' : GH} (h : Upd H b o H') : Upd (A++H) b o (A++H') := by
 induction A with
 | nil=>exact h
 | cons x A ih=>exact .there x _ _ b o ih
theorem Swp.seg {b : Nat} {x : Nat × Obj} {H' : GH} (h : Swp H b x H') : Swp (A++H) b x (A++H') := by
 induction A with
 | nil=>exact h
 | cons y A ih=>exact .there y _ _ b x ih
theorem Kp.segNew {F : GH} (hB : ∀ b,b ∈ keys B → w0.heap.size≤b) (h : Kp w0 H F) : Kp w0 (B++H) F := by
 induction B with
 | nil=>exact h
 | cons x B ih =>
  obtain ⟨b,o⟩ := x
  exact .new (hB b (by simp)) (ih fun k hk=>hB k (by simp [hk]))
theorem Kp.segKeep {F : GH} (h : Kp w0 H F) : Kp w0 (B++H) (B++F) := by
 induction B with
 | nil=>exact h
 | cons x B ih=>exact .keep ih
end
section
variable {α : Type} {P : Program} {w0 : World} {env : Env} {H : GH}
variable {d : Option Nat} {ty : TypeId} {pos : String} {af : Array Edge} {g : Option (Nat × Bool)} {t : TypeId} {s : Nat} {c : α → Nat → Value}
end
end Go.E
namespace Go.E
open Go
inductive Wh {σ ρ : Type} (f : σ → σ ⊕ ρ → Prop) : σ → ρ → Prop
 | out {s : σ} {r : ρ} (h : f s (.inr r)) : Wh f s r
 | again {s s' : σ} {r : ρ} (h : f s (.inl s')) (k : Wh f s' r) : Wh f s r
theorem Wh.upto {σ ρ : Type} {f : σ → σ ⊕ ρ → Prop} (st : Nat → σ) (n : Nat) {r : ρ} (h : ∀ k,k < n → f (st k) (.inl (st (k + 1)))) (hn : f (st n) (.inr r)) : Wh f (st 0) r := by
 have key : ∀ j k,k + j=n → Wh f (st k) r := by
  intro j
  induction j with
  | zero=>intro k hk; obtain rfl : k=n := (by omega); exact .out hn
  | succ j ih=>intro k hk; exact .again (h k (by omega)) (ih (k + 1) (by omega))
 exact key n 0 (by omega)
theorem Wh.by {σ ρ : Type} {f : σ → σ ⊕ ρ → Prop} (I : σ → Prop) (m : σ → Nat) (R : ρ → Prop) {s : σ} (h0 : I s) (h : ∀ s,I s → (∃ s',f s (.inl s')∧I s' ∧ m s' < m s)∨∃ r,f s (.inr r)∧R r) : ∃ r,Wh f s r∧R r := by
 have key : ∀ k s,m s=k → I s → ∃ r,Wh f s r∧R r := by
  intro k
  induction k using Nat.strongRecOn with
  | _ k ih =>
   intro s hk hi
   rcases h s hi with ⟨s',h1,h2,h3⟩ | ⟨r,h1,h2⟩
   ·obtain ⟨r,h4,h5⟩ := ih (m s') (by omega) s' rfl h2
    exact ⟨r,.again h1 h4,h5⟩
   ·exact ⟨r,.out h1,h2⟩
 exact key _ s rfl h0
def RQ {σ ρ : Type} (n : Nat) (w0 : World) (I : σ → Env → GH → Prop) (O : ρ → Exit → Env → GH → Prop) (o : σ ⊕ ρ) : Exit → Act → World → Prop :=
 fun ex a w=>∃ e' H',Ag n e' a∧St w0 H' w∧((∃ s',o=.inl s' ∧ ex=.normal∧I s' e' H')∨∃ r,o=.inr r∧ex ≠ .normal∧O r ex e' H')
section
variable {P : Program} {n : Nat} {w0 : World} {env : Env} {H : GH} {Q : Exit → Act → World → Prop} {ops : Array Oper} {rest : List Oper}
theorem xw_wh {σ ρ : Type} {f : σ → σ ⊕ ρ → Prop} {c : Code} (I : σ → Env → GH → Prop) (O : ρ → Exit → Env → GH → Prop) {s0 : σ} {x : ρ} (hw : Wh f s0 x)
  (h0 : ∃ e1 H1,Live env e1∧(∀ w,St w0 H w → St w0 H1 w)∧I s0 e1 H1)
  (round : ∀ s o e H,I s e H → f s o → XW P n w0 e H c (RQ n w0 I O o))
  (out : ∀ ex e' H',O x ex e' H' → XQ n w0 e' H' ex Q) : XW P n w0 env H (.loop c) Q := by
 intro a w ha hs
 obtain ⟨e1,H1,hl,hst,hi⟩ := h0
 intro b k cs
 have key : ∀ s,Wh f s x → ∀ e H a w,I s e H → Ag n e a → St w0 H w → ∃ ex a' w',Q ex a' w' ∧ Arrives P (lone (b.at a (.code c::.inLoop c::k)) cs w) b k cs ex a' w' := by
  intro s hw
  induction hw with
  | @out s r h =>
   intro e H a w hI ha hs
   obtain ⟨ex,a₁,w₁,hq,harr⟩ := round s _ e H hI h a w ha hs b (.inLoop c::k) cs
   obtain ⟨e',H',ha',hs',hq | hq⟩ := hq
   ·obtain ⟨s',h1,_⟩ := hq; cases h1
   ·obtain ⟨r',h1,hne,hO⟩ := hq
    cases h1
    have hQ := out ex e' H' hO a₁ w₁ ha' hs'
    cases ex with
    | normal=>exact absurd rfl hne
    | exit id=>exact ⟨_,a₁,w₁,hQ,.pass (x := .inLoop c) rfl (fun _ _=>.inl (by simp)) harr⟩
    | goto l=>exact ⟨_,a₁,w₁,hQ,.pass (x := .inLoop c) rfl (fun _ _=>.inl (by simp)) harr⟩
    | ret=>exact ⟨_,a₁,w₁,hQ,.pass (x := .inLoop c) rfl (fun _ _=>.inl (by simp)) harr⟩
    | panic ch=>exact ⟨_,a₁,w₁,hQ,.pass (x := .inLoop c) rfl (fun _ _=>.inl (by simp)) harr⟩
    | outgrown=>exact ⟨_,a₁,w₁,hQ,.pass (x := .inLoop c) rfl (fun _ _=>.inl (by simp)) harr⟩
  | @again s s' r h _ ih =>
   intro e H a w hI ha hs
   obtain ⟨ex,a₁,w₁,hq,harr⟩ := round s _ e H hI h a w ha hs b (.inLoop c::k) cs
   obtain ⟨e',H',ha',hs',hq | hq⟩ := hq
   ·obtain ⟨s'',h1,hex,hI'⟩ := hq
    cases h1
    subst hex
    obtain ⟨ex₂,a₂,w₂,hq₂,harr₂⟩ := ih (by assumption) out e' H' a₁ w₁ hI' ha' hs'
    exact ⟨ex₂,a₂,w₂,hq₂,.of_steps (Steps.trans harr (.one step_inLoop)) harr₂⟩
   ·obtain ⟨r',h1,_⟩ := hq; cases h1
 obtain ⟨ex,a',w',hq,harr⟩ := key s0 hw e1 H1 a w hi (ha.live hl) (hst w hs)
 exact ⟨ex,a',w',hq,.of_steps (.one step_loop) harr⟩
theorem xq_next {σ ρ : Type} {I : σ → Env → GH → Prop} {O : ρ → Exit → Env → GH → Prop} {o : σ ⊕ ρ} {s' : σ} {e' : Env} (H' : GH) (hl : Live env e') (hst : ∀ w,St w0 H w → St w0 H' w) (ho : o=.inl s') (hI : I s' e' H') :
  XQ n w0 env H .normal (RQ n w0 I O o) := fun a w ha hs=>⟨e',H',ha.live hl,hst w hs,.inl ⟨s',ho,rfl,hI⟩⟩
theorem xq_out {σ ρ : Type} {I : σ → Env → GH → Prop} {O : ρ → Exit → Env → GH → Prop} {o : σ ⊕ ρ} {r : ρ} {ex : Exit} {e' : Env} (H' : GH) (hl : Live env e') (hst : ∀ w,St w0 H w → St w0 H' w) (ho : o=.inr r) (hne : ex ≠ .normal) (hO : O r ex e' H') :
  XQ n w0 env H ex (RQ n w0 I O o) := fun a w ha hs=>⟨e',H',ha.live hl,hst w hs,.inr ⟨r,ho,hne,hO⟩⟩
end
def Cov (w0 : World) (B B' : GH) : Prop := (∀ k,k ∈ keys B' → k ∈ keys B∨w0.heap.size≤k)∧∀ k,k ∈ keys B → k ∈ keys B'
theorem Cov.refl {w0 : World} (B : GH) : Cov w0 B B := ⟨fun _ h=>.inl h,fun _ h=>h⟩
theorem Cov.trans {w0 : World} {A B C : GH} (h : Cov w0 A B) (k : Cov w0 B C) : Cov w0 A C :=
 ⟨fun x hx=>(k.1 x hx).elim (fun h' => h.1 x h') .inr,fun x hx=>k.2 x (h.2 x hx)⟩
theorem Cov.fresh {w0 : World} {B : GH} (h : Cov w0 [] B) : ∀ k,k ∈ keys B → w0.heap.size≤k := fun k hk=>(h.1 k hk).elim (fun h=>by simp at h) id
theorem Cov.of_fresh {w0 : World} {B : GH} (h : ∀ k,k ∈ keys B → w0.heap.size≤k) : Cov w0 [] B := ⟨fun k hk=>.inr (h k hk),fun _ h=>by simp at h⟩
theorem Cov.base {w0 w1 : World} {A B : GH} (h : Cov w1 A B) (hw : w0.heap.size≤w1.heap.size) : Cov w0 A B := ⟨fun k hk=>(h.1 k hk).imp id fun h=>Nat.le_trans hw h,h.2⟩
theorem Cov.cons {w0 : World} {b : Nat} {o o' : Obj} {A B : GH} (h : Cov w0 A B) : Cov w0 ((b,o)::A) ((b,o')::B) :=
 ⟨fun k hk=>by
  simp only [keys_cons,List.mem_cons] at hk ⊢
  rcases hk with hk | hk
  ·exact .inl (.inl hk)
  ·exact (h.1 k hk).imp .inr id,fun k hk=>by
  simp only [keys_cons,List.mem_cons] at hk ⊢
  exact hk.imp id (h.2 k)⟩
theorem Cov.app {w0 : World} {A A' B B' : GH} (h : Cov w0 A A') (k : Cov w0 B B') : Cov w0 (A++B) (A' ++ B') :=
 ⟨fun x hx=>by
  simp only [keys_append,List.mem_append] at hx ⊢
  rcases hx with hx | hx
  ·exact (h.1 x hx).imp .inl id
  ·exact (k.1 x hx).imp .inr id,fun x hx=>by
  simp only [keys_append,List.mem_append] at hx ⊢
  exact hx.imp (h.2 x) (k.2 x)⟩
theorem Cov.new {w0 : World} {b : Nat} {o : Obj} {B : GH} (hb : w0.heap.size≤b) : Cov w0 B ((b,o)::B) :=
 ⟨fun k hk=>by
  simp only [keys_cons,List.mem_cons] at hk
  rcases hk with hk | hk
  ·exact .inr (hk ▸ hb)
  ·exact .inl hk,fun k hk=>by simp only [keys_cons,List.mem_cons]; exact .inr hk⟩
theorem Cov.upd {w0 : World} {b : Nat} {o : Obj} {B B' : GH} (h : Upd B b o B') : Cov w0 B B' := ⟨fun k hk=>.inl (by rw [← h.keys]; exact hk),fun k hk=>by rw [h.keys]; exact hk⟩
theorem Upd.ex {b : Nat} {o : Obj} (o' : Obj) : ∀ {B : GH},(b,o) ∈ B → ∃ B',Upd B b o' B'
 | x::B,h=>by
  rcases List.mem_cons.1 h with h | h
  ·subst h; exact ⟨_,.here b o o' B⟩
  ·obtain ⟨B',hB'⟩ := Upd.ex o' h
   exact ⟨x::B',.there x _ _ _ _ hB'⟩
theorem Upd.left {b : Nat} {o : Obj} {B B' H : GH} (h : Upd B b o B') : Upd (B++H) b o (B' ++ H) := by
 induction h with
 | here b o o' t=>exact .here b o o' _
 | there x t t' b o' h ih=>exact .there x _ _ b o' ih
theorem Upd.isin {b : Nat} {o : Obj} {B B' : GH} (h : Upd B b o B') : (b,o) ∈ B' := by
 induction h with
 | here=>exact List.mem_cons_self ..
 | there x t t' b o' h ih=>exact List.mem_cons_of_mem _ ih
inductive Pull : GH → GH → GH → Prop
 | here (S R : GH) : Pull (S++R) S R
 | hereC (x : Nat × Obj) (R : GH) : Pull (x::R) [x] R
 | there (A : GH) {H S R : GH} (h : Pull H S R) : Pull (A++H) S (A++R)
 | thereC (x : Nat × Obj) {H S R : GH} (h : Pull H S R) : Pull (x::H) S (x::R)
theorem Pull.perm {H S R : GH} (h : Pull H S R) : H.Perm (S++R) := by
 induction h with
 | here=>exact List.Perm.refl _
 | hereC=>exact List.Perm.refl _
 | @there A H S R h ih =>
  refine (List.Perm.append_left A ih).trans ?_
  rw [← List.append_assoc,← List.append_assoc]
  exact List.Perm.append_right R List.perm_append_comm
 | @thereC x H S R h ih=>exact (List.Perm.cons x ih).trans List.perm_middle.symm
theorem Pull.st {w0 w : World} {H S R : GH} (h : Pull H S R) (hs : St w0 H w) : St w0 (S++R) w := hs.perm h.perm
theorem Pull.push {w0 w : World} {H S R : GH} (h : Pull H S R) (hs : St w0 (S++R) w) : St w0 H w := hs.perm h.perm.symm
theorem Pull.sub {H S R : GH} (h : Pull H S R) : ∀ x ∈ S,x ∈ H := fun _ hx=>h.perm.mem_iff.2 (List.mem_append_left _ hx)
theorem Pull.mem {H R : GH} {x : Nat × Obj} (h : Pull H [x] R) : x ∈ H := h.sub x (List.mem_singleton.2 rfl)
def Fr (w0 : World) (H : GH) : Prop := ∀ k,k ∈ keys H → w0.heap.size≤k
theorem Fr.nil {w0 : World} : Fr w0 [] := fun _ h=>by simp at h
theorem Fr.cons {w0 : World} {b : Nat} {o : Obj} {H : GH} (hb : w0.heap.size≤b) (h : Fr w0 H) : Fr w0 ((b,o)::H) := fun k hk=>by
 simp only [keys_cons,List.mem_cons] at hk
 exact hk.elim (fun e=>e ▸ hb) (h k)
theorem Fr.seg {w0 : World} {B H : GH} (hb : Cov w0 [] B) (h : Fr w0 H) : Fr w0 (B++H) := fun k hk=>by
 simp only [keys_append,List.mem_append] at hk
 exact hk.elim (hb.fresh k) (h k)
def OJ {α : Type} (T : TypeId) (s : Nat) (c : α → Nat → Value) (B : GH) (v : Value) (l : List α) : Prop :=
 (v=.slice none 0 0∧l=[])∨∃ b o cap N F,(b,BK N F T) ∈ B∧v=.slice (some ⟨b,o,none⟩) l.length cap∧l.length≤cap∧o + cap * s≤N∧cap≤maxLen∧∀ i,i < l.length * s → F (o + i)=eG s c l i
section
variable {α : Type} {w0 w : World} {T : TypeId} {s : Nat} {c : α → Nat → Value} {B H R : GH} {v : Value} {l : List α}
theorem OJ.nil : OJ T s c B (.slice none 0 0) ([] : List α) := .inl ⟨rfl,rfl⟩
theorem OJ.mono {B' : GH} (h : OJ T s c B v l) (hB : ∀ x ∈ B,x ∈ B') : OJ T s c B' v l := by
 rcases h with h | ⟨b,o,cp,N,F,h1,h2⟩
 ·exact .inl h
 ·exact .inr ⟨b,o,cp,N,F,hB _ h1,h2⟩
theorem OJ.val (h : OJ T s c B v l) : ∃ p cap,v=.slice p l.length cap := by
 rcases h with ⟨rfl,rfl⟩ | ⟨b,o,cp,N,F,h1,h2,h3⟩
 ·exact ⟨none,0,rfl⟩
 ·exact ⟨_,_,h2⟩
theorem OJ.sl (h : OJ T s c B v l) (hs : St w0 H w) (hB : ∀ x ∈ B,x ∈ H) : SL w s c v l := by
 rcases h with ⟨rfl,rfl⟩ | ⟨b,o,cp,N,F,h1,h2,h3,h4,h5,h6⟩
 ·exact SL.nil
 ·refine ⟨_,_,h2,h3,h5,fun h=>(by cases h),SrcAt.own hs (hB _ h1) ?_ h6⟩
  have := Nat.mul_le_mul_right s h3
  omega
theorem OJ.lit {b n N : Nat} {F : Nat → Value} (hm : (b,BK N F T) ∈ B) (hl : n=l.length) (hN : n * s≤N) (hmx : n≤maxLen) (hF : ∀ i,i < n * s → F i=eG s c l i) : OJ T s c B (.slice (some ⟨b,0,none⟩) n n) l := by
 subst hl
 exact .inr ⟨b,0,_,N,F,hm,rfl,Nat.le_refl _,by omega,hmx,fun i hi=>by rw [Nat.zero_add]; exact hF i hi⟩
theorem eG_drop {lo : Nat} (hlo : lo≤l.length) (hs : 0 < s) (i : Nat) : eG s c (l.drop lo) i=eG s c l (lo * s + i) := by
 simp only [eG,List.getElem?_drop]
 rw [Nat.mul_comm lo s,Nat.mul_add_div hs,Nat.mul_add_mod]
theorem eG_take {hi i : Nat} (h : i < (l.take hi).length * s) (hs : 0 < s) : eG s c (l.take hi) i=eG s c l i := by
 have h1 : i / s < (l.take hi).length := by rw [Nat.div_lt_iff_lt_mul hs]; exact h
 simp only [eG]
 rw [List.getElem?_take_of_lt (by simp at h1; omega)]
def cutV (v : Value) (s lo hi : Nat) : Value := match v with
 | .slice p _ cap=>.slice (if cap=lo then p else p.map (·.add (lo * s))) (hi - lo) (cap - lo)
 | v=>v
theorem OJ.cut {lo hi : Nat} (h : OJ T s c B v l) (hlo : lo≤hi) (hhi : hi≤l.length) (hs : 0 < s) : OJ T s c B (cutV v s lo hi) ((l.take hi).drop lo) := by
 rcases h with ⟨rfl,rfl⟩ | ⟨b,o,cp,N,F,h1,rfl,h3,h4,h5,h6⟩
 ·simp at hhi
  subst hhi
  obtain rfl : lo=0 := by omega
  exact .inl ⟨rfl,rfl⟩
 ·have hlen : ((l.take hi).drop lo).length=hi - lo := by simp; omega
  have key : ∀ i,i < (hi - lo) * s → eG s c ((l.take hi).drop lo) i=eG s c l (lo * s + i) := by
   intro i hi'
   rw [eG_drop (by simp; omega) hs]
   refine eG_take ?_ hs
   rw [List.length_take,Nat.min_eq_left hhi]
   have : (hi - lo) * s + lo * s=hi * s := by rw [← Nat.add_mul]; congr 1; omega
   omega
  have hhs := Nat.mul_le_mul_right s hhi
  have hcs := Nat.mul_le_mul_right s h3
  have hls := Nat.mul_le_mul_right s hlo
  by_cases hcl : cp=lo
  ·refine .inr ⟨b,o,cp - lo,N,F,h1,by simp [cutV,hcl,hlen],by rw [hlen]; omega,?_,by omega,?_⟩
   ·subst hcl; simp; omega
   ·intro i hi'
    rw [hlen] at hi'
    have : hi - lo=0 := by omega
    rw [this] at hi'
    omega
  ·refine .inr ⟨b,o + lo * s,cp - lo,N,F,h1,by simp [cutV,hcl,hlen,Addr.add_lit],by rw [hlen]; omega,?_,by omega,?_⟩
   ·rw [Nat.sub_mul]
    have := Nat.mul_le_mul_right s (show lo≤cp by omega)
    omega
   ·intro i hi'
    rw [hlen] at hi'
    rw [key i hi',Nat.add_assoc]
    refine h6 _ ?_
    have : (hi - lo) * s + lo * s=hi * s := by rw [← Nat.add_mul]; congr 1; omega
    omega
theorem SL.cut {lo hi : Nat} (h : SL w s c v l) (hlo : lo≤hi) (hhi : hi≤l.length) (hs : 0 < s) : SL w s c (cutV v s lo hi) ((l.take hi).drop lo) := by
 obtain ⟨p,cp,rfl,h3,h5,h6,h7⟩ := h
 have hlen : ((l.take hi).drop lo).length=hi - lo := by simp; omega
 have key : ∀ i,i < (hi - lo) * s → eG s c ((l.take hi).drop lo) i=eG s c l (lo * s + i) := by
  intro i hi'
  rw [eG_drop (by simp; omega) hs]
  refine eG_take ?_ hs
  rw [List.length_take,Nat.min_eq_left hhi]
  have : (hi - lo) * s + lo * s=hi * s := by rw [← Nat.add_mul]; congr 1; omega
  omega
 have hsum : (hi - lo) * s + lo * s=hi * s := by rw [← Nat.add_mul]; congr 1; omega
 have hhs := Nat.mul_le_mul_right s hhi
 refine ⟨if cp=lo then p else p.map (·.add (lo * s)),cp - lo,by rw [hlen]; rfl,by rw [hlen]; omega,by omega,?_,?_⟩
 ·intro hp
  split at hp
  ·omega
  ·cases p with
   | none=>have := h6 rfl; omega
   | some a=>simp at hp
 ·rw [hlen]
  rcases Nat.eq_zero_or_pos ((hi - lo) * s) with h0 | h0
  ·exact .inl h0
  ·rcases h7 with h7 | ⟨b,o,rfl,hc⟩
   ·omega
   ·have hpos : 0 < hi - lo := Nat.pos_of_mul_pos_right h0
    rw [if_neg (by omega)]
    refine .inr ⟨b,o + lo * s,by simp [Addr.add_lit],fun i hi' => ?_⟩
    rw [Nat.add_assoc,hc _ (by omega),key i hi']
def sadr (v : Value) (k : Nat) : Addr := match v with
 | .slice (some a) _ _=>a.add k
 | _=>⟨0,k,none⟩
theorem SL.place {j : Nat} (h : SL w s c v l) (hj : j < l.length) (hs : 0 < s) : ∃ b o cap,v=.slice (some ⟨b,o,none⟩) l.length cap∧∀ k,k < s → w.cell? ⟨b,o + (j * s + k),none⟩=some (c l[j] k) := by
 obtain ⟨b,o,cp,hv,_,_,_,hc⟩ := Sl.at h hj hs
 refine ⟨b,o,cp,hv,fun k hk=>?_⟩
 have : j * s + k < l.length * s := by
  have := Nat.mul_le_mul_right s (show j + 1≤l.length by omega)
  rw [Nat.add_mul,Nat.one_mul] at this
  omega
 rw [hc _ this,eG_at hj hk]
end
def errV (T : TypeId) (c : Int) : Value := if c=0 then .nilIface else .iface T (.int .i64 c)
section
variable {α : Type} {P : Program} {n : Nat} {w0 : World} {env : Env} {H R : GH} {Q : Exit → Act → World → Prop} {ops : Array Oper} {rest : List Oper}
variable {ty : TypeId} {pos : String} {af : Array Edge} {g : Option (Nat × Bool)}
variable {t yt : TypeId} {x y : Operand} {b o N s : Nat} {T : TypeId} {c : α → Nat → Value} {v : Value} {l : List α} {B : GH}
theorem o_lenL {d : Option Nat} {e : TypeId} {ts : Array TypeId} (ht : ts=#[t]) (he : P.underlying t=some (.slice e)) {args : Array Operand} (hargs : evL env args.toList=some [v]) (hv : ∃ p cap,v=.slice p l.length cap) :
  OT P w0 env H ⟨d,.call ⟨.builtin .len,args,ts⟩,ty,pos,af,g⟩ (Is (.int .i64 (l.length : Int)) H) := o_lenS ht he hargs hv
theorem o_ixL {d : Option Nat} {e : TypeId} {ag : Bool} {k : IntKind} {i : Int} (he : Elm P t e s ag) (hx : ev env x=some v) (hs0 : Nat.blt 0 s=true) (hv : ∀ w,St w0 H w → SL w s c v l) (hy : ev env y=some (.int k i)) (h0 : 0≤i∧i < l.length) :
  OT P w0 env H ⟨d,.indexAddr t x y,ty,pos,af,g⟩ (Is (.pointer (some (sadr v (i.toNat * s)))) H) := by
 intro a w ha hst
 have hspos : 0 < s := by simpa [Nat.blt_eq] using hs0
 obtain ⟨b,o,cp,rfl,_⟩ := (hv w hst).place (j := i.toNat) (by omega) hspos
 simp only [sadr,Addr.add_lit]
 exact o_ixs (w0 := w0) (H := H) he hx hy h0 rfl a w ha hst
theorem o_faL {d : Option Nat} {f off k j : Nat} {s' : Nat} {ag : Bool} (hf : Fld P t f off s' ag) (hx : ev env x=some (.pointer (some (sadr v k)))) (hs0 : Nat.blt 0 s=true) (hv : ∀ w,St w0 H w → SL w s c v l) (hj : j < l.length) :
  OT P w0 env H ⟨d,.fieldAddr t x f,ty,pos,af,g⟩ (Is (.pointer (some (sadr v (k + off)))) H) := by
 intro a w ha hst
 obtain ⟨b,o,cp,rfl,_⟩ := (hv w hst).place hj (by simpa [Nat.blt_eq] using hs0)
 simp only [sadr,Addr.add_lit,← Nat.add_assoc] at hx ⊢
 exact o_fa (w0 := w0) (H := H) hf hx a w ha hst
theorem o_ldL1 [Inhabited α] {d : Option Nat} {k j off q : Nat} {u : Value} (hx : ev env x=some (.pointer (some (sadr v k)))) (ht : TyS P t q false) (hs0 : Nat.blt off s=true) (hv : ∀ w,St w0 H w → SL w s c v l) (hj : j < l.length) (hk : k=j * s + off) (hu : c l[j]! off=u) :
  OT P w0 env H ⟨d,.load t x,ty,pos,af,g⟩ (Is u H) := by
 subst hk hu
 refine OT.val fun a w ha hs=>?_
 have hso : off < s := by simpa [Nat.blt_eq] using hs0
 obtain ⟨b,o,cp,rfl,hc⟩ := (hv w hs).place hj (by omega)
 rw [getElem!_pos l j hj]
 refine ⟨_,w,H,run_load1 (b := b) (o := o + (j * s + off)) ?_ ht (hc off hso),hs,rfl,rfl⟩
 rw [ha.ev hx]; simp [sadr,Addr.add_lit]
theorem o_ldLA [Inhabited α] {d : Option Nat} {k j off q : Nat} {f : Nat → Value} (hx : ev env x=some (.pointer (some (sadr v k)))) (ht : TyS P t q true) (hq : Nat.ble (off + q) s=true) (hq0 : Nat.blt 0 q=true) (hv : ∀ w,St w0 H w → SL w s c v l) (hj : j < l.length) (hk : k=j * s + off) (hu : ∀ i,i < q → c l[j]! (off + i)=f i) :
  OT P w0 env H ⟨d,.load t x,ty,pos,af,g⟩ (Is (AG q f) H) := by
 subst hk
 have hle := Nat.le_of_ble_eq_true hq
 have hq0' : 0 < q := by simpa [Nat.blt_eq] using hq0
 refine OT.val fun a w ha hs=>?_
 obtain ⟨b,o,cp,rfl,hc⟩ := (hv w hs).place hj (by omega)
 refine ⟨_,w,H,run_loadA (b := b) (o := o + (j * s + off)) (f := f) ?_ ht (fun i hi=>?_),hs,rfl,rfl⟩
 ·rw [ha.ev hx]; simp [sadr,Addr.add_lit]
 ·have := hc (off + i) (by omega)
  rw [show o + (j * s + off) + i=o + (j * s + (off + i)) by omega,this,← hu i hi,getElem!_pos l j hj]
theorem o_ldLI {d : Option Nat} {l : List (Nat → Int)} {k j : Nat} (hx : ev env x=some (.pointer (some (sadr v k)))) (ht : TyS P t s true) (hs0 : Nat.blt 0 s=true) (hv : ∀ w,St w0 H w → SL w s iv v l) (hj : j < l.length) (hk : k=j * s) :
  OT P w0 env H ⟨d,.load t x,ty,pos,af,g⟩ (Is (AI s l[j]!) H) :=
 o_ldLA (off := 0) hx ht (by simp) hs0 hv hj hk (fun i _=>by rw [Nat.zero_add])
theorem run_cut {d : Option Nat} {a : Act} {w : World} {e : TypeId} {ag : Bool} {lo hi : Option Operand} {m h : Nat} (he : Elm P t e s ag) (hx : a.eval x=v) (hv : ∃ p cap,v=.slice p l.length cap∧l.length≤cap)
  (hlo : ∀ o,lo=some o → ∃ k,a.eval o=.int k (m : Int)) (hlo' : lo=none → m=0) (hhi : ∀ o,hi=some o → ∃ k,a.eval o=.int k (h : Int)) (hhi' : hi=none → h=l.length) (hlh : m≤h) (hhc : h≤l.length) :
  (execOp a.eval ⟨d,.slice t x lo hi none,ty,pos,af,g⟩).run P w=.ok (.value (cutV v s m h)) w := by
 obtain ⟨p,cap,rfl,hc⟩ := hv
 exact run_slice he hx hlo hlo' hhi hhi' hlh (Nat.le_trans hhc hc)
theorem o_cutH {d : Option Nat} {e : TypeId} {ag : Bool} {o2 : Operand} {k : IntKind} {j : Int} (he : Elm P t e s ag) (hx : ev env x=some v) (hv : ∀ w,St w0 H w → SL w s c v l) (h2 : ev env o2=some (.int k j)) (hj : 0≤j∧j≤l.length) :
  OT P w0 env H ⟨d,.slice t x none (some o2) none,ty,pos,af,g⟩ (Is (cutV v s 0 j.toNat) H) :=
 OT.val fun a w ha hs=>⟨_,w,H,run_cut (l := l) he (ha.ev hx) (let ⟨p,cp,h,h',_⟩ := hv w hs; ⟨p,cp,h,h'⟩) (fun o ho=>by cases ho) (fun _=>rfl) (fun o ho=>by cases ho; exact ⟨k,by rw [ha.ev h2,Int.toNat_of_nonneg hj.1]⟩) (fun h=>by cases h) (Nat.zero_le _) (by omega),hs,rfl,rfl⟩
theorem o_cutL {d : Option Nat} {e : TypeId} {ag : Bool} {o1 : Operand} {k : IntKind} {i : Int} (he : Elm P t e s ag) (hx : ev env x=some v) (hv : ∀ w,St w0 H w → SL w s c v l) (h1 : ev env o1=some (.int k i)) (hi : 0≤i∧i≤l.length) :
  OT P w0 env H ⟨d,.slice t x (some o1) none none,ty,pos,af,g⟩ (Is (cutV v s i.toNat l.length) H) :=
 OT.val fun a w ha hs=>⟨_,w,H,run_cut (l := l) he (ha.ev hx) (let ⟨p,cp,h,h',_⟩ := hv w hs; ⟨p,cp,h,h'⟩) (fun o ho=>by cases ho; exact ⟨k,by rw [ha.ev h1,Int.toNat_of_nonneg hi.1]⟩) (fun h=>by cases h) (fun o ho=>by cases ho) (fun _=>rfl) (by omega) (by omega),hs,rfl,rfl⟩
theorem o_eqE {d : Option Nat} {ds : TypeDesc} {r : Int} (ht : P.underlying t=some ds) (hz : nilOf ds=some .nilIface) (hk : ∀ u,sameKind ds (.iface u (.int .i64 r))=true) (hk0 : sameKind ds .nilIface=true) (hx : ev env x=some (errV T r)) :
  OT P w0 env H ⟨d,.binOp .eql t x (.const .nilIface) yt,ty,pos,af,g⟩ (Is (.bool (decide (r=0))) H) := by
 refine o_eqn (r := decide (r=0)) ht hz hx ?_ ?_
 ·unfold errV; split
  ·exact hk0
  ·exact hk _
 ·unfold errV; split
  ·rename_i h; simp [isNilV,h]
  ·rename_i h; simp [isNilV,h]
theorem o_neE {d : Option Nat} {ds : TypeDesc} {r : Int} (ht : P.underlying t=some ds) (hz : nilOf ds=some .nilIface) (hk : ∀ u,sameKind ds (.iface u (.int .i64 r))=true) (hk0 : sameKind ds .nilIface=true) (hx : ev env x=some (errV T r)) :
  OT P w0 env H ⟨d,.binOp .neq t x (.const .nilIface) yt,ty,pos,af,g⟩ (Is (.bool (!decide (r=0))) H) := by
 refine o_nen (r := decide (r=0)) ht hz hx ?_ ?_
 ·unfold errV; split
  ·exact hk0
  ·exact hk _
 ·unfold errV; split
  ·rename_i h; simp [isNilV,h]
  ·rename_i h; simp [isNilV,h]
end
end Go.E
namespace Go.E
open Go
def Oj (T : TypeId) (s : Nat) (B : GH) (v : Value) (n : Nat) (G : Nat → Value) : Prop :=
 (v=.slice none 0 0∧n=0)∨∃ b o c N F,(b,BK N F T) ∈ B∧v=.slice (some ⟨b,o,none⟩) n c∧n≤c∧o + c * s≤N∧c≤maxLen∧∀ i,i < n * s → F (o + i)=G i
theorem Oj.val {T : TypeId} {s n : Nat} {B : GH} {v : Value} {G : Nat → Value} (h : Oj T s B v n G) : ∃ p c,v=.slice p n c∧n≤c∧c≤maxLen∧(p=none → c=0) := by
 rcases h with ⟨h2,h3⟩ | ⟨b,o,c,N,F,h1,h3,h4,h5,h6,h7⟩
 ·subst h3; exact ⟨none,0,h2,Nat.le_refl _,Nat.zero_le _,fun _=>rfl⟩
 ·exact ⟨_,c,h3,h4,h6,fun h=>by cases h⟩
theorem Oj.ext {T : TypeId} {s n : Nat} {B : GH} {v : Value} {G G' : Nat → Value} (h : Oj T s B v n G) (hG : ∀ i,i < n * s → G i=G' i) : Oj T s B v n G' := by
 rcases h with h | ⟨b,o,c,N,F,h1,h3,h4,h5,h6,h7⟩
 ·exact .inl h
 ·exact .inr ⟨b,o,c,N,F,h1,h3,h4,h5,h6,fun i hi=>(h7 i hi).trans (hG i hi)⟩
section
variable {P : Program} {n : Nat} {w0 : World} {env : Env} {H : GH} {Q : Exit → Act → World → Prop} {ops : Array Oper} {rest : List Oper}
variable {d : Option Nat} {op : Op} {ty : TypeId} {pos : String} {af : Array Edge} {g : Option (Nat × Bool)}
variable {t yt : TypeId} {x y : Operand} {b o N s : Nat} {F : Nat → Value} {m k : Nat → Int} {T : TypeId}
theorem o_appj {e : TypeId} {by_ : Nat} {z : Value} {B : GH} {v : Value} {n m c2 : Nat} {G S : Nat → Value} {q : Option Addr} {ts : Array TypeId} {args : Array Operand} (ht : App P t e s by_ z) (hts : ts=#[t,t])
  (hargs : evL env args.toList=some [v,.slice q m c2]) (hown : Oj e s B v n G) (hsrc : ∀ w,St w0 (B++H) w → SrcAt w q (m * s) S) (h1 : ∀ i,i < m * s → (S i).oneCell' = true) (hmax : n + m≤maxLen) (hby : (n + m) * by_≤140737488355328) :
  OT P w0 env (B++H) ⟨d,.call ⟨.builtin .append,args,ts⟩,ty,pos,af,g⟩ (fun v' H' => ∃ B',H' = B' ++ H∧Cov w0 B B' ∧ Oj e s B' v' (n + m) (app G (n * s) S)) :=
 OT.val fun a w ha hs=>by
  subst hts
  have e1 : args.map a.eval=#[v,.slice q m c2] := Array.toList_inj.1 (by simpa using evL_spec ha _ _ hargs)
  have hexec : (execOp a.eval ⟨d,.call ⟨.builtin .append,args,#[t,t]⟩,ty,pos,af,g⟩).run P w=((Builtin.append_ #[t,t] ty #[v,.slice q m c2]).run P w).andThen fun u w' => .ok (.value u) w' := by
   simp [execOp,resolve,invoke,builtin,e1]
  obtain ⟨i,hi,hi'⟩ := Option.map_eq_some_iff.1 ht.i
  simp only [Prod.mk.injEq] at hi'
  obtain ⟨hi1,hi2,hi3⟩ := hi'
  have hspos : 0 < s := by simpa [Nat.blt_eq] using ht.pos
  have hmx : maxLen=9223372036854775807 := by decide
  have hsrc' := hsrc w hs
  -- the case of nothing to put
  rcases Nat.eq_zero_or_pos m with hm0 | hmpos
  ·subst hm0
   obtain ⟨p,c,hv,hnc,hcm,hpn⟩ := hown.val
   have hr : (Builtin.append_ #[t,t] ty #[v,.slice q 0 c2]).run P w=.ok v w := by
    rw [hv]
    cases q <;> cases p <;> simp [Builtin.append_,run_underlying ht.u,Go.sizeOf,typeInfo,hi,Builtin.lenOf,hnc,Builtin.firstCells,loadCells,loadCellsFrom,storeCells]
   refine ⟨v,w,B++H,by rw [hexec,hr]; rfl,hs,B,rfl,Cov.refl B,?_⟩
   rw [Nat.add_zero]
   exact hown.ext fun i hi=>by simp [app,hi]
  ·have hms : m * s ≠ 0 := Nat.mul_ne_zero (by omega) (by omega)
   rcases hsrc' with h0 | ⟨b2,o2,hq,hcells⟩
   ·exact absurd h0 hms
   ·subst hq
    have hl : ((List.range (m * s)).map S).length=m * i.size := by rw [hi1]; simp
    have hnews := list_src hcells
    have hoc : ∀ u ∈ (List.range (m * s)).map S,u.oneCell' = true := by
     intro u hu
     obtain ⟨j,hj,rfl⟩ := List.mem_map.1 hu
     exact h1 j (List.mem_range.1 hj)
    rcases hown with ⟨hv,hn0⟩ | ⟨b,o,c,N,F,hB,hv,hnc,hoN,hcm,hF⟩
    ·subst hv hn0
     simp only [Nat.zero_add] at hmax hby
     have hr := run_append_nil (P := P) w t ty e i z ht.u hi hi3 ⟨b2,o2,none⟩ m c2 _ hl hnews hmpos (by omega) (by rw [hi2]; omega)
     have hgc := grownCap_ge w m 0 e
     have hgm := grownCap_le_maxLen w m 0 e (by omega)
     have hobj : Obj.cells (((List.range (m * s)).map S).toArray++Builtin.zeroCells z.cells (grownCap w m 0 e - m)) e=BK (grownCap w m 0 e * s) (fun j=>(((List.range (m * s)).map S).toArray++Builtin.zeroCells z.cells (grownCap w m 0 e - m)).getD j undef) e := by
      unfold BK
      congr 1
      refine CV_eq ?_ fun j hj=>?_
      ·simp only [Array.size_append,List.size_toArray,List.length_map,List.length_range,size_zeroCells,ht.z,← Nat.add_mul]
       congr 1; omega
      ·have hsz : (((List.range (m * s)).map S).toArray++Builtin.zeroCells z.cells (grownCap w m 0 e - m)).size=grownCap w m 0 e * s := by
        simp only [Array.size_append,List.size_toArray,List.length_map,List.length_range,size_zeroCells,ht.z,← Nat.add_mul]
        congr 1; omega
       simp only [Array.getD_eq_getD_getElem?]
       rw [Array.getElem?_eq_getElem (by rw [hsz]; exact hj)]
       rfl
     have hst := (hs.drew).alloc (Obj.cells (((List.range (m * s)).map S).toArray++Builtin.zeroCells z.cells (grownCap w m 0 e - m)) e)
     refine ⟨_,_,_,by rw [hexec,hr]; rfl,hst,(w.heap.size,BK (grownCap w m 0 e * s) (fun j=>(((List.range (m * s)).map S).toArray++Builtin.zeroCells z.cells (grownCap w m 0 e - m)).getD j undef) e)::B,by rw [hobj]; rfl,Cov.new hs.size,?_⟩
     refine .inr ⟨w.heap.size,0,grownCap w m 0 e,_,_,List.mem_cons_self ..,by rw [Nat.zero_add],by omega,by omega,hgm,fun j hj=>?_⟩
     simp only [Nat.zero_add] at hj ⊢
     simp only [app,Nat.zero_mul,Nat.not_lt_zero,if_false,Nat.sub_zero]
     rw [Array.getD_eq_getD_getElem?,Array.getElem?_append_left (by simpa using hj)]
     simp [hj]
    ·subst hv
     by_cases hroom : n + m≤c
     ·skip
      have hbk : w.heap[b]? = some (BK N F e) := hs.own _ _ (List.mem_append_left _ hB)
      have hcs : (n + m) * s≤c * s := Nat.mul_le_mul_right _ hroom
      rw [Nat.add_mul] at hcs
      have hfc := run_firstCells_some (P := P) w i.size m ⟨b2,o2,none⟩ m c2 _ hl hnews
      have hst := run_storeCells_at P b (o + n * s) e ((List.range (m * s)).map S) 0 (CV N F) w hbk (by simp; omega) hoc
      simp only [Nat.add_zero] at hst
      have hr : (Builtin.append_ #[t,t] ty #[.slice (some ⟨b,o,none⟩) n c,.slice (some ⟨b2,o2,none⟩) m c2]).run P w=.ok (.slice (some ⟨b,o,none⟩) (n + m) c) (w.setRow b ((CV N F).toList.take (o + n * s)++(List.range (m * s)).map S++(CV N F).toList.drop (o + n * s + ((List.range (m * s)).map S).length)).toArray) := by
       subst hi1
       simp [Builtin.append_,run_underlying ht.u,Go.sizeOf,typeInfo,hi,Builtin.lenOf,hroom,hfc,Addr.add_lit]
       simp at hst
       rw [hst]
       rfl
      have hsp : ((CV N F).toList.take (o + n * s)++(List.range (m * s)).map S++(CV N F).toList.drop (o + n * s + ((List.range (m * s)).map S).length)).toArray=CV N (updR F (o + n * s) (m * s) S) :=
       splice_CV (by simp; omega) (fun j hj=>by
        have hj' : j < m * s := by simpa using hj
        simp only [updR]
        rw [if_pos (by omega)]
        simp [hj']) (fun j _ hh=>by
        simp only [List.length_map,List.length_range] at hh
        simp only [updR]; rw [if_neg (by omega)])
      obtain ⟨B',hB'⟩ := Upd.ex (BK N (updR F (o + n * s) (m * s) S) e) hB
      refine ⟨_,_,_,by rw [hexec,hr]; rfl,hs.setRow (N := N) (F := F) (T := e) (b := b) (f' := updR F (o + n * s) (m * s) S) (List.mem_append_left _ hB) hsp hB'.left,B',rfl,Cov.upd hB',?_⟩
      refine .inr ⟨b,o,c,N,_,hB'.isin,rfl,hroom,hoN,hcm,fun j hj=>?_⟩
      rw [Nat.add_mul] at hj
      simp only [updR,app]
      by_cases hjn : j < n * s
      ·rw [if_neg (by omega),if_pos hjn,hF j hjn]
      ·rw [if_pos (by omega),if_neg hjn]; congr 1; omega
     ·skip
      have hns : n * s≤c * s := Nat.mul_le_mul_right _ hnc
      have hbk : w.heap[b]? = some (BK N F e) := hs.own _ _ (List.mem_append_left _ hB)
      have holds : ∀ j u,((List.range (n * s)).map G)[j]? = some u → w.cell? ((⟨b,o,none⟩ : Addr).add j)=some u :=
       list_src fun j hj=>by rw [cell_BK hbk (by omega),hF j hj]
      have hr := run_append_grow (P := P) w t ty e i z ht.u hi hi3 ⟨b,o,none⟩ n c ((List.range (n * s)).map G) (by rw [hi1]; simp) holds ⟨b2,o2,none⟩ m c2 _ hl hnews (by omega) (by omega) (growslice_fits (by omega) (by rw [hi2]; exact hby))
      have hgc := grownCap_ge w (n + m) c e
      have hgm := grownCap_le_maxLen w (n + m) c e hmax
      have hsz : (((List.range (n * s)).map G).toArray++((List.range (m * s)).map S).toArray++Builtin.zeroCells z.cells (grownCap w (n + m) c e - (n + m))).size=grownCap w (n + m) c e * s := by
       simp only [Array.size_append,List.size_toArray,List.length_map,List.length_range,size_zeroCells,ht.z,← Nat.add_mul]
       congr 1; omega
      have hobj : Obj.cells (((List.range (n * s)).map G).toArray++((List.range (m * s)).map S).toArray++Builtin.zeroCells z.cells (grownCap w (n + m) c e - (n + m))) e =
        BK (grownCap w (n + m) c e * s) (fun j=>(((List.range (n * s)).map G).toArray++((List.range (m * s)).map S).toArray++Builtin.zeroCells z.cells (grownCap w (n + m) c e - (n + m))).getD j undef) e := by
       unfold BK
       congr 1
       refine CV_eq hsz fun j hj=>?_
       simp only [Array.getD_eq_getD_getElem?]
       rw [Array.getElem?_eq_getElem (by rw [hsz]; exact hj)]
       rfl
      have hst := (hs.drew).alloc (Obj.cells (((List.range (n * s)).map G).toArray++((List.range (m * s)).map S).toArray++Builtin.zeroCells z.cells (grownCap w (n + m) c e - (n + m))) e)
      refine ⟨_,_,_,by rw [hexec,hr]; rfl,hst,(w.heap.size,BK (grownCap w (n + m) c e * s) (fun j=>(((List.range (n * s)).map G).toArray++((List.range (m * s)).map S).toArray++Builtin.zeroCells z.cells (grownCap w (n + m) c e - (n + m))).getD j undef) e)::B,by rw [hobj]; rfl,Cov.new hs.size,?_⟩
      refine .inr ⟨w.heap.size,0,grownCap w (n + m) c e,_,_,List.mem_cons_self ..,rfl,hgc,by omega,hgm,fun j hj=>?_⟩
      rw [Nat.add_mul] at hj
      simp only [Nat.zero_add,app]
      rw [Array.getD_eq_getD_getElem?,Array.getElem?_append_left (by simp; omega)]
      by_cases hjn : j < n * s
      ·rw [if_pos hjn,Array.getElem?_append_left (by simpa using hjn)]
       simp [hjn]
      ·rw [if_neg hjn,Array.getElem?_append_right (by simp; omega)]
       simp [show j - n * s < m * s by omega]
end
section
variable {α : Type} {P : Program} {w0 : World} {env : Env} {H : GH}
variable {d : Option Nat} {ty : TypeId} {pos : String} {af : Array Edge} {g : Option (Nat × Bool)} {t : TypeId} {s : Nat} {c : α → Nat → Value}
theorem o_appJ {e : TypeId} {by_ : Nat} {z : Value} {B : GH} {v u : Value} {l l' : List α} {ts : Array TypeId} {args : Array Operand} (ht : App P t e s by_ z) (hts : ts=#[t,t])
  (hargs : evL env args.toList=some [v,u]) (hown : OJ e s c B v l) (hsrc : ∀ w,St w0 (B++H) w → SL w s c u l') (h1 : ∀ (a : α) (i : Nat),(c a i).oneCell' = true) (hby : (l.length + l'.length) * by_≤140737488355328) (hmax : l.length + l'.length≤maxLen) :
  OT P w0 env (B++H) ⟨d,.call ⟨.builtin .append,args,ts⟩,ty,pos,af,g⟩ (fun v' H' => ∃ B',H' = B' ++ H∧Cov w0 B B' ∧ OJ e s c B' v' (l++l')) := by
 intro a w ha hs
 obtain ⟨p,cap,hu,_,_,hpn,hsrc0⟩ := hsrc w hs
 subst hu
 have hspos : 0 < s := by simpa [Nat.blt_eq] using ht.pos
 have hsrc2 : ∀ w',St w0 (B++H) w' → SrcAt w' p (l'.length * s) (eG s c l') := by
  intro w' hs'
  obtain ⟨p',cap',hu',_,_,_,h⟩ := hsrc w' hs'
  cases hu'
  exact h
 have h1' : ∀ i,i < l'.length * s → (eG s c l' i).oneCell' = true := by
  intro i hi
  have : i / s < l'.length := by rw [Nat.div_lt_iff_lt_mul hspos]; exact hi
  simp only [eG,List.getElem?_eq_getElem this,Option.elim_some,h1]
 have hj : Oj e s B v l.length (eG s c l) := by
  rcases hown with ⟨h1,h2⟩ | h
  ·exact .inl ⟨h1,by rw [h2]; rfl⟩
  ·exact .inr h
 have := o_appj (d := d) (ty := ty) (pos := pos) (af := af) (g := g) (B := B) (H := H) (n := l.length) (m := l'.length) ht hts hargs hj hsrc2 h1' hmax hby a w ha hs
 refine wp_mono2 ?_ (fun _ _ _ h=>h.elim) this
 rintro a' w' ⟨v',H',rfl,hs',B',rfl,hcov,hown'⟩
 refine ⟨v',_,rfl,hs',B',rfl,hcov,?_⟩
 have hx := hown'.ext (eG_app hspos c l l')
 rcases hx with ⟨h1,h2⟩ | ⟨b,o,cp,N,F,h1,h2⟩
 ·exact .inl ⟨h1,by rw [← List.length_append] at h2; exact List.length_eq_zero_iff.1 h2⟩
 ·exact .inr ⟨b,o,cp,N,F,h1,by rw [List.length_append]; exact h2⟩
theorem eG_set {l : List α} {j : Nat} (e : α) (hj : j < l.length) (hs : 0 < s) (i : Nat) : eG s c (l.set j e) i=if j * s≤i∧i < j * s + s then c e (i - j * s) else eG s c l i := by
 simp only [eG,List.getElem?_set]
 have hdm := Nat.div_add_mod i s
 have hml := Nat.mod_lt i hs
 by_cases h : j=i / s
 ·subst h
  rw [Nat.mul_comm] at hdm
  rw [if_pos rfl,if_pos hj,if_pos (by omega)]
  simp only [Option.elim_some]
  congr 1; omega
 ·rw [if_neg h,if_neg]
  intro hh
  apply h
  have h1 : j≤i / s := (Nat.le_div_iff_mul_le hs).2 hh.1
  have h2 : i / s < j + 1 := by rw [Nat.div_lt_iff_lt_mul hs,Nat.add_mul,Nat.one_mul]; exact hh.2
  omega
theorem OJ.set {T : TypeId} {B : GH} {v : Value} {l : List α} {j : Nat} (h : OJ T s c B v l) (hj : j < l.length) (hs : 0 < s) (e : α) : ∃ b o cap N F,v=.slice (some ⟨b,o,none⟩) l.length cap∧(b,BK N F T) ∈ B∧o + (j * s + s)≤N ∧
  ∀ B',Upd B b (BK N (updR F (o + j * s) s (c e)) T) B' → OJ T s c B' v (l.set j e) := by
 rcases h with ⟨_,rfl⟩ | ⟨b,o,cap,N,F,h1,h2,h3,h4,h5,h6⟩
 ·simp at hj
 ·have hle := Nat.mul_le_mul_right s (show j + 1≤l.length by omega)
  have hle2 := Nat.mul_le_mul_right s h3
  rw [Nat.add_mul,Nat.one_mul] at hle
  refine ⟨b,o,cap,N,F,h2,h1,by omega,fun B' hu=>.inr ⟨b,o,cap,N,_,hu.isin,by rw [List.length_set]; exact h2,by rw [List.length_set]; exact h3,h4,h5,fun i hi=>?_⟩⟩
  rw [List.length_set] at hi
  rw [eG_set e hj hs]
  simp only [updR]
  by_cases hh : j * s≤i∧i < j * s + s
  ·rw [if_pos (by omega),if_pos hh]; congr 1; omega
  ·rw [if_neg (by omega),if_neg hh,h6 i hi]
theorem o_stL1 {T : TypeId} {B : GH} {x y : Operand} {v u : Value} {l : List α} {k j : Nat} {e : α} {c : α → Nat → Value} (hx : ev env x=some (.pointer (some (sadr v k)))) (hy : ev env y=some u) (ht : TyS P t 1 false) (h1 : u.oneCell' = true) (hJ : OJ T 1 c B v l) (hj : j < l.length) (hk : k=j * 1) (hu : c e=fun _=>u) :
  OT P w0 env (B++H) ⟨none,.store t x y,ty,pos,af,g⟩ (fun _ H' => ∃ B',H' = B' ++ H∧Cov w0 B B' ∧ OJ T 1 c B' v (l.set j e)) := by
 intro a w ha hs
 subst hk
 obtain ⟨b,o,cap,N,F,hv,hm,hle,hset⟩ := hJ.set hj (by omega) e
 obtain ⟨B',hB'⟩ := Upd.ex (BK N (updR F (o + j * 1) 1 (c e)) T) hm
 have e1 : updR F (o + j * 1) 1 (c e)=upd F (o + j * 1) u := by
  funext i; simp only [updR,upd,hu]
  by_cases h : i=o + j * 1
  ·rw [if_pos (by omega),if_pos h]
  ·rw [if_neg (by omega),if_neg h]
 have := o_st (w0 := w0) (env := env) (H := B++H) (H' := B' ++ H) (b := b) (o := o + j * 1) (N := N) (F := F) (T := T) (ty := ty) (pos := pos) (af := af) (g := g) (by rw [hx,hv]; simp [sadr,Addr.add_lit]) hy ht h1 (List.mem_append_left _ hm) (by omega) (by rw [← e1]; exact hB'.left) a w ha hs
 refine wp_mono2 ?_ (fun _ _ _ h=>h.elim) this
 rintro a' w' ⟨v',H',rfl,hs',rfl,rfl⟩
 exact ⟨undef,_,rfl,hs',B',rfl,Cov.upd hB',hset B' hB'⟩
end
end Go.E
namespace Go.E
open Go
section
variable {P : Program} {n : Nat} {w0 : World} {env : Env} {H : GH} {o : Oper}
theorem OT.st {H1 : GH} {R : Value → GH → Prop} (hh : ∀ w,St w0 H w → St w0 H1 w) (h : OT P w0 env H1 o R) : OT P w0 env H o R := fun a w ha hs=>h a w ha (hh w hs)
end
end Go.E
namespace Go.E
open Go
section
variable {P : Program} {n : Nat} {w0 : World} {ops : Array Oper} {KS : List Nat} {env0 env : Env} {dn : List Nat} {H RS : GH} {Q : Exit → Act → World → Prop}
end
end Go.E
namespace Go.E
open Go
theorem toNat_lt {i : Int} {n : Nat} (h : 0≤i∧i < n) : i.toNat < n := by omega
theorem toNat_le {i : Int} {n : Nat} (h : 0≤i∧i≤n) : i.toNat≤n := by omega
theorem oneOf {v : Value} {n : Nat} (h : ∃ p c,v=.slice p n c) : v.oneCell' = true := by obtain ⟨p,c,rfl⟩ := h; rfl
theorem len_max {k b : Nat} (h : k * b≤140737488355328) (hb : 0 < b) : k≤maxLen := by
 have : k * 1≤k * b := Nat.mul_le_mul_left k hb
 have e : maxLen=9223372036854775807 := by decide
 omega
theorem bnT {b : Bool} (h : (!b)=true) : b=false := by simpa using h
theorem bnF {b : Bool} (h : (!b)=false) : b=true := by simpa using h
def strAt (s : ByteArray) (i : Int) : Int := ((s[i.toNat]?).map fun b=>(b.toNat : Int)).getD 0
section
variable {P : Program} {n : Nat} {w0 : World} {env : Env} {H : GH} {Q : Exit → Act → World → Prop} {ops : Array Oper} {rest : List Oper}
variable {ty : TypeId} {pos : String} {af : Array Edge} {g : Option (Nat × Bool)} {t : TypeId} {x y : Operand}
theorem o_mkE {d : Option Nat} {i : Int} {ds : TypeDesc} (hx : ev env x=some (.int .i64 i)) (h1 : P.underlying t=some ds) (h2 : (match ds with | .interface _=>false | _=>true)=true) (hi : i ≠ 0) :
  OT P w0 env H ⟨d,.makeInterface t x,ty,pos,af,g⟩ (Is (errV t i) H) := by
 rw [show errV t i=.iface t (.int .i64 i) from if_neg hi]
 exact o_mki hx h1 h2
theorem o_ixStr {d : Option Nat} {s : ByteArray} {k : IntKind} {i : Int} (hu : P.underlying t=some .string) (hx : ev env x=some (.string s)) (hy : ev env y=some (.int k i)) (h0 : 0≤i∧i < s.size) :
  OT P w0 env H ⟨d,.index t x y,ty,pos,af,g⟩ (Is (.int .u8 (strAt s i)) H) :=
 OT.pure fun a w ha=>by
  have hlt : i.toNat < s.size := by omega
  have hs : s[i.toNat]? = some s[i.toNat] := getElem?_pos s i.toNat hlt
  simp only [execOp,ha.ev hx,ha.ev hy,Instr.index,asIntOf,Sem.run_bind,Sem.run_pure,Result.andThen_ok,run_underlying hu,if_pos h0.1,hs,strAt,Option.map_some,Option.getD_some]
end
end Go.E
namespace Go.E
open Go
section
variable {P : Program} {n : Nat} {w0 : World} {env : Env} {H : GH} {Q : Exit → Act → World → Prop} {ops : Array Oper} {rest : List Oper}
variable {ty : TypeId} {pos : String} {af : Array Edge} {g : Option (Nat × Bool)}
theorem calls_in {f : FuncId} {fn : Func} {c : Code} {vs : List Value} {l : Env} {m : Nat} {w : World} {R : Value → GH → Prop} (hf : P.funcs[f]? = some fn) (hb : fn.body=some c) (hm : fn.ntmps=m) (hsz : Nat.ble vs.length m=true) (hl : LiveA vs l)
  (h : XW P m w0 l H c (bodyPost P fn (GoodEnd w0 R))) (hs : St w0 H w) : Calls P f vs.toArray w (GoodEnd w0 R) := by
 refine calls_of_wp hf hb (h _ w ⟨?_,rfl,?_⟩ hs)
 ·have := Nat.le_of_ble_eq_true hsz
  simp only [Array.size_append,Array.size_replicate,hm,List.size_toArray]
  omega
 ·intro t v ht
  have h1 : vs.toArray[t]? = some v := by rw [List.getElem?_toArray]; exact hl.get t v ht
  have hlt := (Array.getElem?_eq_some_iff.1 h1).1
  simp only [Array.getD_eq_getD_getElem?]
  rw [Array.getElem?_append_left hlt,h1]
  rfl
theorem ot_enter {o : Oper} {f : FuncId} {fn : Func} {c : Code} {vs : List Value} {l : Env} {m : Nat} {R : Value → GH → Prop}
  (hrun : ∀ a w,AgV env a → (execOp a.eval o).run P w=.ok (.enter f vs.toArray) w)
  (hf : P.funcs[f]? = some fn) (hb : fn.body=some c) (hm : fn.ntmps=m) (hsz : Nat.ble vs.length m=true) (hl : LiveA vs l)
  (h : XW P m w0 l H c (bodyPost P fn (GoodEnd w0 R))) : OT P w0 env H o R := by
 intro a w ha hs
 unfold Oper.wp
 rw [hrun a w ha,Oper.upon_enter]
 refine Calls.mono (calls_in hf hb hm hsz hl h hs) ?_
 rintro e w' ⟨v,F,rfl,hst,hR⟩
 exact ⟨v,F,rfl,hst,hR⟩
theorem ot_in {d : Option Nat} {f : FuncId} {fn : Func} {c : Code} {vs : List Value} {l : Env} {m : Nat} {R : Value → GH → Prop} {args : Array Operand} {ts : Array TypeId} (hk : IsFn P f) (hargs : evL env args.toList=some vs)
  (hf : P.funcs[f]? = some fn) (hb : fn.body=some c) (hm : fn.ntmps=m) (hsz : Nat.ble vs.length m=true) (hl : LiveA vs l)
  (h : XW P m w0 l H c (bodyPost P fn (GoodEnd w0 R))) : OT P w0 env H ⟨d,.call ⟨.value (.func f),args,ts⟩,ty,pos,af,g⟩ R := by
 refine ot_enter (fun a w ha=>?_) hf hb hm hsz hl h
 cases d with
 | some d=>exact run_call hk hargs a w ha
 | none =>
  have hm : args.map a.eval=vs.toArray := Array.toList_inj.1 (by simpa using evL_spec ha _ _ hargs)
  simp only [execOp,resolve,Sem.run_bind,Act.eval,Deferred.ofValue,Sem.run_pure,Result.andThen_ok,invoke,hm]
  simpa using run_callFunc hk vs.toArray w
theorem ot_inv {d : Option Nat} {f : FuncId} {fn : Func} {c : Code} {x : Operand} {first vs cap : List Value} {l : Env} {m : Nat} {R : Value → GH → Prop} {args : Array Operand} {ts : Array TypeId} (hx : ev env x=some (.func (.func f) first.toArray cap.toArray)) (hk : IsFn P f) (hargs : evL env args.toList=some vs)
  (hf : P.funcs[f]? = some fn) (hb : fn.body=some c) (hm : fn.ntmps=m) (hsz : Nat.ble (first++vs++cap).length m=true) (hl : LiveA (first++vs++cap) l)
  (h : XW P m w0 l H c (bodyPost P fn (GoodEnd w0 R))) : OT P w0 env H ⟨d,.call ⟨.value x,args,ts⟩,ty,pos,af,g⟩ R := by
 refine ot_enter (fun a w ha=>?_) hf hb hm hsz hl h
 have hm : args.map a.eval=vs.toArray := Array.toList_inj.1 (by simpa using evL_spec ha _ _ hargs)
 simp only [execOp,resolve,Sem.run_bind,ha.ev hx,Deferred.ofValue,Sem.run_pure,Result.andThen_ok,invoke,hm]
 have := run_callFunc hk (first++vs++cap).toArray w
 simpa using this
theorem xoR {d : Nat} {op : Op} (hd : Nat.blt d n=true) (hw : Wt ops env g) (h : OT P w0 env H ⟨some d,op,ty,pos,af,g⟩ (fun v H' => XO P n w0 ((d,v)::env) H' ops rest Q)) : XO P n w0 env H ops (⟨some d,op,ty,pos,af,g⟩::rest) Q :=
 xo hd hw h fun _ _ hr=>hr
inductive ResV (P : Program) (env : Env) (H : GH) : List ResultVar → List Value → Prop
 | nil : ResV P env H [] []
 | tmp {t : Nat} {v : Value} {l : List ResultVar} {vs : List Value} (h : lk t env=some v) (k : ResV P env H l vs) : ResV P env H (.tmp t::l) (v::vs)
 | cell {t b s : Nat} {ty T : TypeId} {F : Nat → Value} {l : List ResultVar} {vs : List Value} (h : lk t env=some (.pointer (some ⟨b,0,none⟩))) (ht : TyS P ty s true) (hm : (b,BK s F T) ∈ H) (k : ResV P env H l vs) : ResV P env H (.cell t ty::l) (AG s F::vs)
 | cell1 {t b q : Nat} {ty T : TypeId} {v : Value} {l : List ResultVar} {vs : List Value} (h : lk t env=some (.pointer (some ⟨b,0,none⟩))) (ht : TyS P ty q false) (hm : (b,BK 1 (fun _=>v) T) ∈ H) (k : ResV P env H l vs) : ResV P env H (.cell t ty::l) (v::vs)
theorem ResV.run {l : List ResultVar} {vs : List Value} (h : ResV P env H l vs) {a : Act} (ha : AgV env a) {w : World} (hs : St w0 H w) :
  (l.mapM (m := Sem) fun | .tmp t=>pure (a.tmps.getD t undef) | .cell b t=>do loadVar t (← asAddr (a.tmps.getD b undef))).run P w=.ok vs w := by
 induction h with
 | nil=>simp
 | @tmp t v l vs h k ih =>
  simp [ha t v h,ih,-Array.getD_eq_getD_getElem?]
 | @cell t b s ty T F l vs h ht hm k ih =>
  have hlo := run_loadCells (P := P) w ⟨b,0,none⟩ s F (fun j hj=>by rw [Addr.add_lit,Nat.zero_add]; exact cell_BK (hs.own _ _ hm) hj)
  have hv : (loadVar ty ⟨b,0,none⟩).run P w=.ok (AG s F) w := by
   simp [loadVar,ht.isAgg,ht.sizeOf,hlo,AG,CV]
  have hA : (asAddr (a.tmps.getD t undef)).run P w=.ok ⟨b,0,none⟩ w := by rw [ha t _ h]; rfl
  simp [hA,hv,ih,-Array.getD_eq_getD_getElem?]
 | @cell1 t b q ty T v l vs h ht hm k ih =>
  have hc := cell_BK (hs.own _ _ hm) (show 0 < 1 by omega)
  have hv : (loadVar ty ⟨b,0,none⟩).run P w=.ok v w := by
   simp [loadVar,ht.isAgg,hc]
  have hA : (asAddr (a.tmps.getD t undef)).run P w=.ok ⟨b,0,none⟩ w := by rw [ha t _ h]; rfl
  simp [hA,hv,ih,-Array.getD_eq_getD_getElem?]
def tupV : List Value → Value
 | [v]=>v
 | l=>.tuple l.toArray
theorem con_retN {fn : Func} {w : World} {G : Value → GH → Prop} {e : Exit} (he : e=.ret∨e=.normal) {l : List ResultVar} {vs : List Value} {v : Value} (hr : fn.results=l.toArray) (h : ResV P env H l vs) (hv : tupV vs=v)
  (F : GH) (hF : ∀ w',St w H w' → St w F w') (hG : G v F) : XQ n w env H e (bodyPost P fn (GoodEnd w G)) := by
 intro a w' ha hs
 have hrun : (results fn a.tmps).run P w' = .ok v w' := by
  have h1 := h.run ha.get hs
  simp only [results,hr,List.mapM_toArray]
  subst hv
  simp [-Array.getD_eq_getD_getElem?]
  refine Eq.trans (congrArg (fun r=>Result.andThen r fun a w' => Result.ok (if h : a.length=1 then a[0] else Value.tuple a.toArray) w') h1) ?_
  match vs with
  | []=>rfl
  | [v]=>rfl
  | v::u::r=>rfl
 rcases he with rfl | rfl <;> exact ⟨ha.defers,_,hrun,_,F,rfl,hF w' hs,hG⟩
end
end Go.E
namespace Go.E
open Go
def cat : List GH → GH
 | []=>[]
 | S::L=>S++cat L
theorem cat_perm {L L' : List GH} (h : L.Perm L') : (cat L).Perm (cat L') := by
 induction h with
 | nil=>exact List.Perm.refl _
 | cons x h ih=>exact List.Perm.append_left x ih
 | swap x y l =>
  show (y++(x++cat l)).Perm (x++(y++cat l))
  rw [← List.append_assoc,← List.append_assoc]
  exact List.Perm.append_right _ List.perm_append_comm
 | trans h1 h2 ih1 ih2=>exact ih1.trans ih2
theorem cat_append (L L' : List GH) : cat (L++L')=cat L++cat L' := by
 induction L with
 | nil=>rfl
 | cons x L ih=>show x++cat (L++L')=(x++cat L)++cat L'; rw [ih,List.append_assoc]
theorem map_getD_range (L : List GH) : (List.range L.length).map (fun i=>L.getD i [])=L := by
 apply List.ext_getElem?
 intro i
 by_cases h : i < L.length
 ·simp [h]
 ·simp [h]
theorem St.permI {w0 w : World} (σ : List Nat) (L : List GH) (h : List.isPerm σ (List.range L.length)=true) (hs : St w0 (cat L) w) : St w0 (cat (σ.map fun i=>L.getD i [])) w := by
 refine hs.perm ?_
 have h1 := (List.isPerm_iff.1 h).map (fun i=>L.getD i [])
 rw [map_getD_range] at h1
 exact cat_perm h1.symm
theorem St.permJ {w0 w : World} (σ : List Nat) (L : List GH) (hs : St w0 (cat L) w) (h : List.isPerm σ (List.range L.length)=true := by kernel_rfl) : St w0 (cat (σ.map fun i=>L.getD i [])) w := St.permI σ L h hs
def Has (w : World) (C : GH) : Prop := (∀ b o,(b,o) ∈ C → w.heap[b]? = some o)∧(keys C).Nodup
theorem St.has {w0 w : World} {C R : GH} (h : St w0 (C++R) w) : Has w C := by
 refine ⟨fun b o hm=>h.own b o (List.mem_append_left _ hm),?_⟩
 have := h.nd
 rw [keys_append] at this
 exact (List.nodup_append.1 this).1
theorem St.hasC {w0 w : World} {Cs Rs : List GH} (h : St w0 (cat (Cs++Rs)) w) : Has w (cat Cs) := by
 rw [cat_append] at h; exact h.has
theorem Has.st {w w' : World} {C : GH} (h : Has w C) (hs : St w [] w') : St w C w' := by
 have hk : ∀ k,k < w.heap.size → w'.heap[k]? = w.heap[k]? := fun k hk=>hs.keep k hk (by simp)
 refine ⟨hs.os,hs.tape,hs.out,hs.size,fun b o hm=>?_,h.2,fun k hlt _=>hk k hlt⟩
 have := h.1 b o hm
 rw [hk b (Array.getElem?_eq_some_iff.1 this).1]; exact this
section
variable {P : Program} {n : Nat} {w0 : World} {env : Env} {H : GH} {Q : Exit → Act → World → Prop} {ops : Array Oper} {rest : List Oper}
variable {ty : TypeId} {pos : String} {af : Array Edge} {g : Option (Nat × Bool)}
theorem xw_has {C : GH} {c : Code} (h : Has w0 C) (k : XW P n w0 env C c Q) : XW P n w0 env [] c Q := fun a w ha hs=>k a w ha (h.st hs)
def CatG (G : Value → List GH → Prop) : Value → GH → Prop := fun v F=>∃ Ls,F=cat Ls∧G v Ls
theorem ot_callG {Cs Rs : List GH} {o : Oper} {f : FuncId} {vs : List Value} {G : World → Value → List GH → Prop}
  (hrun : ∀ a w,AgV env a → (execOp a.eval o).run P w=.ok (.enter f vs.toArray) w)
  (h : ∀ w,St w0 (cat (Cs++Rs)) w → Con P f vs.toArray w (CatG (G w))) (hcov : ∀ w v Ls,G w v Ls → Cov w (cat Cs) (cat Ls)) :
  OT P w0 env (cat (Cs++Rs)) o (fun v H' => ∃ w Ls,H' = cat (Ls++Rs)∧w0.heap.size≤w.heap.size∧G w v Ls) := by
 intro a w ha hs
 unfold Oper.wp
 rw [hrun a w ha,Oper.upon_enter]
 refine Calls.mono (h w hs) ?_
 rintro e w' ⟨v,F,rfl,hst,Ls,rfl,hG⟩
 have hc := hcov w v Ls hG
 refine ⟨v,cat (Ls++Rs),rfl,?_,w,Ls,rfl,hs.size,hG⟩
 rw [cat_append] at hs ⊢
 have hnd := hs.nd
 simp only [keys_append,List.nodup_append] at hnd
 refine hs.trans hst ?_ ?_ ?_ ?_
 ·simp only [keys_append,List.nodup_append]
  refine ⟨hst.nd,hnd.2.1,?_⟩
  intro a ha b hb e
  subst e
  rcases hc.1 a ha with h1 | h1
  ·exact hnd.2.2 a h1 a hb rfl
  ·have := hs.klt (b := a) (by simp [hb])
   omega
 ·intro b o hm
  rcases List.mem_append.1 hm with hm | hm
  ·exact .inl hm
  ·refine .inr ⟨List.mem_append_right _ hm,fun hb=>?_⟩
   rcases hc.1 b hb with h1 | h1
   ·exact hnd.2.2 b h1 b (mem_keys hm) rfl
   ·have := hs.klt (b := b) (by simp [mem_keys hm])
    omega
 ·intro b hb _
  simp [hb]
 ·intro b hb _
  simp only [keys_append,List.mem_append] at hb ⊢
  exact hb.imp (hc.2 b) id
theorem ot_callF {Cs Rs : List GH} {d : Nat} {f : FuncId} {args : Array Operand} {ts : Array TypeId} {vs : List Value} {G : World → Value → List GH → Prop} (hk : IsFn P f) (hargs : evL env args.toList=some vs)
  (h : ∀ w,St w0 (cat (Cs++Rs)) w → Con P f vs.toArray w (CatG (G w))) (hcov : ∀ w v Ls,G w v Ls → Cov w (cat Cs) (cat Ls)) :
  OT P w0 env (cat (Cs++Rs)) ⟨some d,.call ⟨.value (.func f),args,ts⟩,ty,pos,af,g⟩ (fun v H' => ∃ w Ls,H' = cat (Ls++Rs)∧w0.heap.size≤w.heap.size∧G w v Ls) :=
 ot_callG (run_call hk hargs) h hcov
def cl (l : List Value) : Nat → Value := fun i=>l.getD i undef
variable {d : Option Nat} {t yt : TypeId} {x y : Operand} {b o N s : Nat} {T : TypeId} {l l' : List Value}
theorem o_stC {H' : GH} {v : Value} (hx : ev env x=some (.pointer (some ⟨b,o,none⟩))) (hy : ev env y=some v) (ht : TyS P t 1 false) (h1 : v.oneCell' = true) (hm : (b,BK N (cl l) T) ∈ H) (hN : l.length=N) (ho : o < N) (hl : l.set o v=l')
  (hu : Upd H b (BK N (cl l') T) H') : OT P w0 env H ⟨none,.store t x y,ty,pos,af,g⟩ (Is undef H') :=
 o_st hx hy ht h1 hm ho (by
  rw [BK_ext (g := cl l') (fun i hi=>?_)]
  ·exact hu
  ·subst hl
   simp only [upd,cl,List.getD_eq_getElem?_getD,List.getElem?_set]
   by_cases h : i=o
   ·subst h; rw [if_pos rfl,if_pos rfl,if_pos (by omega)]; rfl
   ·rw [if_neg h,if_neg (fun e=>h e.symm)])
theorem o_stCA {H' : GH} {f : Nat → Value} (hx : ev env x=some (.pointer (some ⟨b,o,none⟩))) (hy : ev env y=some (AG s f)) (ht : TyS P t s true) (h1 : ∀ i,i < s → (f i).oneCell' = true) (hm : (b,BK N (cl l) T) ∈ H) (ho : o + s≤N) (hl : ∀ i,i < N → updR (cl l) o s f i=cl l' i)
  (hu : Upd H b (BK N (cl l') T) H') : OT P w0 env H ⟨none,.store t x y,ty,pos,af,g⟩ (Is undef H') :=
 o_stS hx hy ht h1 hm ho (by rw [BK_ext (g := cl l') hl]; exact hu)
end
end Go.E
namespace Go.E
open Go
section
variable {P : Program} {n : Nat} {w0 : World} {env : Env} {H : GH} {Q : Exit → Act → World → Prop} {ops : Array Oper} {rest : List Oper}
theorem Cov.more {w0 : World} {A B N : GH} (h : Cov w0 A B) (k : Cov w0 [] N) : Cov w0 A (B++N) := by
 have := h.app k
 rwa [List.append_nil] at this
theorem Cov.app0 {w0 : World} {N M : GH} (h : Cov w0 [] N) (k : Cov w0 [] M) : Cov w0 [] (N++M) := h.app k
theorem Cov.nil {w0 : World} : Cov w0 [] [] := Cov.refl _
theorem OJ.left {α : Type} {T : TypeId} {s : Nat} {c : α → Nat → Value} {B N : GH} {v : Value} {l : List α} (h : OJ T s c B v l) : OJ T s c (B++N) v l := h.mono fun _ hx=>List.mem_append_left _ hx
theorem OJ.right {α : Type} {T : TypeId} {s : Nat} {c : α → Nat → Value} {B N : GH} {v : Value} {l : List α} (h : OJ T s c N v l) : OJ T s c (B++N) v l := h.mono fun _ hx=>List.mem_append_right _ hx
variable {ty : TypeId} {pos : String} {af : Array Edge} {g : Option (Nat × Bool)} {d : Option Nat} {x : Operand}
theorem o_boxC {e : TypeId} {k : Nat} {f : Nat → Value} (l : List Value) (hx : ev env x=some (AG k f)) (hf : ∀ i,i < k → f i=cl l i) : OT P w0 env H ⟨d,.box e x,ty,pos,af,g⟩ (NewAt w0 (BK k (cl l) e) H) := by
 rw [AG_ext hf] at hx; exact o_boxA hx
theorem o_allocC {e : TypeId} {k : Nat} {f : Nat → Value} (l : List Value) (hz : ZeroT P e (AG k f)) (hf : ∀ i,i < k → f i=cl l i) : OT P w0 env H ⟨d,.alloc e,ty,pos,af,g⟩ (NewAt w0 (BK k (cl l) e) H) := by
 rw [AG_ext hf] at hz; exact o_alloc hz rfl
end
end Go.E
namespace Go.E
open Go
section
variable {P : Program} {w0 : World} {env : Env} {H : GH} {ty : TypeId} {pos : String} {af : Array Edge} {g : Option (Nat × Bool)} {d : Option Nat} {t : TypeId} {N : Nat}
theorem o_buildC {ps : Array (Nat × Operand)} {zf f : Nat → Value} (l : List Value) (hok : FldsOk P t) (hz : ZeroT P t (AG N zf)) (hf : Fill P t N env ps.toList zf f) (hl : ∀ i,i < N → f i=cl l i) : OT P w0 env H ⟨d,.build t ps,ty,pos,af,g⟩ (Is (AG N (cl l)) H) := by
 rw [← AG_ext hl]; exact o_build hok hz hf
end
end Go.E
namespace Go.E
open Go
theorem SL.nilOr {α : Type} {w : World} {s : Nat} {c : α → Nat → Value} {v : Value} {l : List α} (h : SL w s c v l) : ((isNilV v=some true∧∀ e,sameKind (.slice e) v=true)∧l=[])∨(isNilV v=some false∧∀ e,sameKind (.slice e) v=true) := by
 obtain ⟨p,cp,rfl,h2,h3,h4,h5⟩ := h
 cases p with
 | none=>exact .inl ⟨⟨rfl,fun _=>rfl⟩,List.length_eq_zero_iff.1 (by have := h4 rfl; omega)⟩
 | some a=>exact .inr ⟨rfl,fun _=>rfl⟩
theorem OJ.nilOr {α : Type} {T : TypeId} {s : Nat} {c : α → Nat → Value} {B : GH} {v : Value} {l : List α} (h : OJ T s c B v l) : ((isNilV v=some true∧∀ e,sameKind (.slice e) v=true)∧l=[])∨(isNilV v=some false∧∀ e,sameKind (.slice e) v=true) := by
 rcases h with ⟨rfl,rfl⟩ | ⟨b,o,cp,N,F,h1,rfl,h2⟩
 ·exact .inl ⟨⟨rfl,fun _=>rfl⟩,rfl⟩
 ·exact .inr ⟨rfl,fun _=>rfl⟩
end Go.E
namespace Go.E
open Go
section
variable {P : Program} {n : Nat} {w0 : World} {env : Env} {H : GH} {Q : Exit → Act → World → Prop} {ops : Array Oper} {rest : List Oper}
variable {ty : TypeId} {pos : String} {af : Array Edge} {g : Option (Nat × Bool)} {d : Option Nat} {t yt : TypeId} {x y : Operand} {i j : Int} {k' : IntKind}
theorem o_max2 {ts : Array TypeId} {args : Array Operand} (hargs : evL env args.toList=some [.int .i64 i,.int .i64 j]) :
  OT P w0 env H ⟨d,.call ⟨.builtin .max,args,ts⟩,ty,pos,af,g⟩ (Is (.int .i64 (if i < j then j else i)) H) :=
 OT.pure fun a w ha=>by
  have e1 : args.map a.eval=#[.int .i64 i,.int .i64 j] := Array.toList_inj.1 (by simpa using evL_spec ha _ _ hargs)
  simp [execOp,resolve,invoke,builtin,e1,Builtin.max_,Builtin.max2,List.foldlM]
end
end Go.E
namespace Go.E
open Go
def reach (ops : Array Oper) : Nat → Nat → List Nat
 | 0,i=>aft ops i
 | f + 1,i=>aft ops i++(aft ops i).flatMap (reach ops f)
section
variable {P : Program} {n : Nat} {w0 : World} {ops : Array Oper} {KS : List Nat} {env0 env : Env} {dn : List Nat} {H RS : GH} {Q : Exit → Act → World → Prop}
theorem reach_listed {listed : Array Bool} (hd : ∀ j,listed.getD j false=true → ∀ k ∈ aft ops j,listed.getD k false=true) : ∀ f i,(∀ k ∈ aft ops i,listed.getD k false=true) → ∀ k ∈ reach ops f i,listed.getD k false=true
 | 0,_,h,k,hk=>h k hk
 | f + 1,i,h,k,hk=>by
  rcases List.mem_append.1 hk with hk | hk
  ·exact h k hk
  ·obtain ⟨j,hj,hk⟩ := List.mem_flatMap.1 hk
   exact reach_listed hd f j (fun q hq=>hd j (h j hj) q hq) k hk
def noRs (p : Rec) : Rec := ⟨p.i,p.l,[],p.v⟩
theorem map_noRs (dl : List Rec) : (dl.map noRs).map (·.i)=dl.map (·.i) := by simp [noRs]
theorem envOK_noRs {dl : List Rec} (h : EnvOK ops env0 dl env) : EnvOK ops env0 (dl.map noRs) env := by
 intro s v hs
 rcases h s v hs with ⟨p,hp,h1,h2⟩ | ⟨h1,h2⟩
 ·exact .inl ⟨noRs p,List.mem_map_of_mem hp,h1,h2⟩
 ·refine .inr ⟨fun p hp=>?_,h2⟩
  obtain ⟨q,hq,rfl⟩ := List.mem_map.1 hp
  exact h1 q hq
theorem xd_flush (hok : RegOK n ops=true) (f : Nat) (i : Nat) {o : Oper} (l : Env) (ho : ops[i]? = some o) (hf : front ops dn=[i]) (hcl : dn.all (reach ops f i).contains=true) (hl : Live env l) (hs : slotsOK ops dn i (l.map (·.1))=true) (hw : Wt ops l o.guard) {R : Value → GH → Prop} (ht : OT P w0 l H o R)
  (k : ∀ v H',R v H' → (∀ k ∈ keys H',k ∈ KS∨w0.heap.size≤k)∧XD P n w0 ops KS env0 (i::dn) (match o.dst with | some d=>(d,v)::env | none=>env) H' [] Q) : XD P n w0 ops KS env0 dn env H RS Q := by
 intro a0 dl ha0 hdn hnd he hrs
 refine xd_rounds hok (by rw [hdn]; exact hnd) ?_ ?_
 ·intro a w listed hr hinv
  exfalso
  have hi : i ∈ front ops dn := by rw [hf]; exact List.mem_singleton.2 rfl
  obtain ⟨h1,h2⟩ := List.mem_filter.1 hi
  have := all_listed hok hinv.lsize hr i (List.mem_range.1 h1)
  obtain ⟨p,hp,e⟩ := hinv.inn i this
  simp only [Bool.and_eq_true,Bool.not_eq_true',List.contains_eq_mem,decide_eq_false_iff_not] at h2
  exact h2.1 (by rw [← hdn]; exact List.mem_map.2 ⟨p,hp,e⟩)
 ·intro fuel listed a w j hinv hr hni
  have hj := front_spec hinv.lsize hdn hinv.inn hr hni
  rw [hf] at hj
  obtain rfl := List.mem_singleton.1 hj
  obtain ⟨hlt,hl0,haft⟩ := (mem_ready' hinv.lsize).1 hr
  have hagv := hinv.agv hl0 haft (slots_spec ha0 he hdn hl hs)
  have hdst : dstOf ops j=o.dst := by simp [dstOf,ho]
  have hall : ∀ p ∈ dl,listed.getD p.i false=true := by
   intro p hp
   have h1 := List.all_eq_true.1 hcl p.i (by rw [← hdn]; exact List.mem_map.2 ⟨p,hp,rfl⟩)
   simp only [List.contains_eq_mem,decide_eq_true_eq] at h1
   exact reach_listed hinv.down f j haft _ h1
  unfold wpOp
  simp only [ho]
  rw [if_pos (hw.wanted hagv)]
  refine .inl (wp_mono2 ?_ (fun _ _ _ h=>h.elim) (ht a w hagv hinv.st))
  rintro a' w' ⟨v,H',rfl,hst,hR⟩
  obtain ⟨k3,k2⟩ := k v H' hR
  have hlt' : j < listed.size := by rw [hinv.lsize]; exact hlt
  have hni2 : ∀ p ∈ dl.map noRs,p.i ≠ j := by
   intro p hp
   obtain ⟨q,hq,rfl⟩ := List.mem_map.1 hp
   exact hni q hq
  have hni' : j ∉ (dl.map noRs).map (·.i) := by
   simp only [List.mem_map,not_exists,not_and]
   rintro p ⟨q,hq,rfl⟩
   exact hni q hq
  have hinv2 : Inv P n ops w0 KS a0 (⟨j,l,[],v⟩::dl.map noRs) H' fuel (listed.setIfInBounds j true) (a.put o.dst v) w' := by
   rw [← hdst]
   refine ⟨by simpa using hinv.lsize,?_,?_,?_,?_,by rw [put_size]; exact hinv.size,by rw [put_defers]; exact hinv.defers,hst,k3,?_,?_⟩
   ·intro q hq
    rw [getD_set hlt'] at hq
    by_cases e : q=j
    ·exact ⟨⟨j,l,[],v⟩,List.mem_cons_self ..,e.symm⟩
    ·rw [if_neg e] at hq
     obtain ⟨p,hp,e⟩ := hinv.inn q hq
     exact ⟨noRs p,List.mem_cons_of_mem _ (List.mem_map.2 ⟨p,hp,rfl⟩),e⟩
   ·intro q hq hq0
    exfalso
    rw [getD_set hlt'] at hq0
    rcases List.mem_cons.1 hq with rfl | hq
    ·simp at hq0
    ·obtain ⟨p,hp,rfl⟩ := List.mem_map.1 hq
     have hq1 : (if p.i=j then true else listed.getD p.i false)=false := hq0
     rw [if_neg (hni p hp),hall p hp] at hq1; cases hq1
   ·intro q hq hq1 s hs'
    rcases List.mem_cons.1 hq with rfl | hq
    ·have hs'' : dstOf ops j=some s := hs'
     rw [hs'',put_getD_self (by rw [hinv.size]; exact regOK_lt hok hs'')]
    ·obtain ⟨p,hp,rfl⟩ := List.mem_map.1 hq
     have hne := hni p hp
     rw [put_getD (fun hh=>hne (regOK_uniq hok hs' hh))]
     exact hinv.done p hp (hall p hp) s hs'
   ·intro s hs'
    have hne : dstOf ops j ≠ some s := fun hh=>by
     have := hs' j hh
     rw [getD_set hlt',if_pos rfl] at this
     cases this
    rw [put_getD hne]
    refine hinv.rest s fun q hq=>?_
    have := hs' q hq
    rw [getD_set hlt'] at this
    split at this
    ·cases this
    ·exact this
   ·intro q hq k' hk
    rw [getD_set hlt'] at hq ⊢
    by_cases e : k' = j
    ·rw [if_pos e]
    ·rw [if_neg e]
     by_cases e2 : q=j
     ·subst e2; exact haft k' hk
     ·rw [if_neg e2] at hq; exact hinv.down q hq k' hk
   ·rw [countP_set hlt' hl0 _ hlt]
    have := hinv.fuel
    omega
  have henv := envOK_cons (p := ⟨j,l,[],v⟩) hok (envOK_noRs he) hni'
  refine k2 a0 (⟨j,l,[],v⟩::dl.map noRs) ha0 (by simp only [List.map_cons,map_noRs,hdn]) (List.nodup_cons.2 ⟨by rw [← hdn,← map_noRs]; exact hni',hnd⟩) ?_ ?_ _ _ _ _ hinv2
  ·cases hd : o.dst with
   | none=>exact henv.2 (by show dstOf ops j=none; rw [hdst,hd])
   | some d=>exact henv.1 d (by show dstOf ops j=some d; rw [hdst,hd])
  ·intro p hp x hx
   rcases List.mem_cons.1 hp with rfl | hp
   ·cases hx
   ·obtain ⟨q,hq,rfl⟩ := List.mem_map.1 hp
    cases hx
end
end Go.E
namespace Go.E
open Go
section
variable {P : Program} {n : Nat} {w0 : World} {ops : Array Oper} {KS : List Nat} {env0 env : Env} {dn : List Nat} {H RS : GH} {Q : Exit → Act → World → Prop}
theorem xd_fl (hok : RegOK n ops=true) (f : Nat) (i : Nat) {o : Oper} {d : Nat} (l : Env) (ho : ops[i]? = some o) (hd : o.dst=some d) (hf : front ops dn=[i]) (hcl : dn.all (reach ops f i).contains=true) (hl : Live env l) (hs : slotsOK ops dn i (l.map (·.1))=true) (hw : Wt ops l o.guard) {R : Value → GH → Prop} (ht : OT P w0 l H o R)
  (k : ∀ v H',R v H' → (∀ k ∈ keys H',k ∈ KS∨w0.heap.size≤k)∧XD P n w0 ops KS env0 (i::dn) ((d,v)::env) H' [] Q) : XD P n w0 ops KS env0 dn env H RS Q :=
 xd_flush hok f i l ho hf hcl hl hs hw ht (fun v H' h=>by rw [hd]; exact k v H' h)
theorem xd_fl0 (hok : RegOK n ops=true) (f : Nat) (i : Nat) {o : Oper} (l : Env) (ho : ops[i]? = some o) (hd : o.dst=none) (hf : front ops dn=[i]) (hcl : dn.all (reach ops f i).contains=true) (hl : Live env l) (hs : slotsOK ops dn i (l.map (·.1))=true) (hw : Wt ops l o.guard) {R : Value → GH → Prop} (ht : OT P w0 l H o R)
  (k : ∀ v H',R v H' → (∀ k ∈ keys H',k ∈ KS∨w0.heap.size≤k)∧XD P n w0 ops KS env0 (i::dn) env H' [] Q) : XD P n w0 ops KS env0 dn env H RS Q :=
 xd_flush hok f i l ho hf hcl hl hs hw ht (fun v H' h=>by rw [hd]; exact k v H' h)
def Ks (w0 : World) (KS : List Nat) (H : GH) : Prop := ∀ k ∈ keys H,k ∈ KS∨w0.heap.size≤k
theorem Ks.nil : Ks w0 KS [] := fun _ h=>by simp at h
theorem Ks.consN {b : Nat} {o : Obj} (hb : w0.heap.size≤b) (h : Ks w0 KS H) : Ks w0 KS ((b,o)::H) := fun k hk=>by
 simp only [keys_cons,List.mem_cons] at hk
 exact hk.elim (fun e=>.inr (e ▸ hb)) (h k)
theorem Ks.consK {b : Nat} {o : Obj} (hb : b ∈ KS) (h : Ks w0 KS H) : Ks w0 KS ((b,o)::H) := fun k hk=>by
 simp only [keys_cons,List.mem_cons] at hk
 exact hk.elim (fun e=>.inl (e ▸ hb)) (h k)
theorem Ks.segN {B : GH} (hc : Cov w0 [] B) (h : Ks w0 KS H) : Ks w0 KS (B++H) := fun k hk=>by
 simp only [keys_append,List.mem_append] at hk
 exact hk.elim (fun e=>.inr (hc.fresh k e)) (h k)
theorem Ks.segK {B : GH} (hc : ∀ k ∈ keys B,k ∈ KS) (h : Ks w0 KS H) : Ks w0 KS (B++H) := fun k hk=>by
 simp only [keys_append,List.mem_append] at hk
 exact hk.elim (fun e=>.inl (hc k e)) (h k)
theorem Ks.segC {A B : GH} (hc : Cov w0 A B) (hA : ∀ k ∈ keys A,k ∈ KS) (h : Ks w0 KS H) : Ks w0 KS (B++H) := fun k hk=>by
 simp only [keys_append,List.mem_append] at hk
 exact hk.elim (fun e=>(hc.1 k e).imp (hA k) id) (h k)
theorem xd_show {H' : GH} (e : H=H') (h : XD P n w0 ops KS env0 dn env H' RS Q) : XD P n w0 ops KS env0 dn env H RS Q := e ▸ h
end
end Go.E
namespace Go.E
open Go
section
variable {P : Program} {n : Nat} {w0 : World} {ops : Array Oper} {KS : List Nat} {env0 env : Env} {dn : List Nat} {H RS : GH} {Q : Exit → Act → World → Prop}
theorem XD.more {RS' : GH} (h : XD P n w0 ops KS env0 dn env H RS' Q) (hs : ∀ x ∈ RS,x ∈ RS') : XD P n w0 ops KS env0 dn env H RS Q :=
 fun a0 dl h1 h2 h3 h4 h5=>h a0 dl h1 h2 h3 h4 fun p hp x hx=>hs x (h5 p hp x hx)
end
theorem bS : (∀ b : Bool,(true && b)=b)∧(∀ b : Bool,(b && true)=b)∧(∀ b : Bool,(false && b)=false)∧(∀ b : Bool,(b && false)=false)∧(∀ b : Bool,(b || true)=true)∧(∀ b : Bool,(true || b)=true)∧(∀ b : Bool,(b || false)=b) ∧
  (∀ b : Bool,(false || b)=b)∧((!true)=false)∧((!false)=true)∧(∀ (b c : Bool),cond true b c=b)∧(∀ (b c : Bool),cond false b c=c) := by simp
end Go.E
namespace Go.E
open Go
section
variable {κ α : Type} (ke : κ → κ → Bool)
def mfind : List (κ × α) → κ → Option α
 | [],_=>none
 | p::d,k=>if ke k p.1 then some p.2 else mfind d k
def mget (d : List (κ × α)) (k : κ) (z : α) : α := (mfind ke d k).getD z
def mhas (d : List (κ × α)) (k : κ) : Bool := (mfind ke d k).isSome
def mset : List (κ × α) → κ → α → List (κ × α)
 | [],k,v=>[(k,v)]
 | p::d,k,v=>if ke k p.1 then (p.1,v)::d else p::mset d k v
def mdel (d : List (κ × α)) (k : κ) : List (κ × α) := d.filter fun p=>!ke k p.1
end
def ieq (a b : Int) : Bool := a == b
abbrev kI : Int → Value := fun x=>.int .i64 x
structure KeyT {κ : Type} (P : Program) (kt : TypeId) (ck : κ → Value) (ke : κ → κ → Bool) : Prop where
 check : ∀ (b : Bool) k w,(Instr.checkKey b 10000 kt (ck k)).run P w=.ok () w
 find : ∀ k (es : List MapEntry) (ks : List κ) w,es.map (·.key)=ks.map ck → (Instr.findKey kt (ck k) es).run P w=.ok ((ks.findIdx? (ke k)).bind fun i=>(es[i]?).map fun e=>(i,e.val)) w
 stays : ∀ a b w,ke a b=true → (Instr.keyThatStays (ck b) (ck a)).run P w=.ok (ck a) w
 same : ∀ a b,ke a b=true → ck a=ck b
 eqv : ∀ a b c,ke a b=true → ke a c=true → ke c b=true
 self : ∀ a,ke a a=true
def MO {κ α : Type} (ck : κ → Value) (cv : α → Value) (ke : κ → κ → Bool) (d : List (κ × α)) (o : Obj) : Prop :=
 ∃ es clock,o=.map es clock∧es.toList.map (fun e=>(e.key,e.val))=d.map (fun p=>(ck p.1,cv p.2))∧(∀ e ∈ es.toList,e.born < clock)∧(es.toList.map (·.born)).Nodup∧d.Pairwise fun p q=>ke q.1 p.1=false
def MJ {κ α : Type} (ck : κ → Value) (cv : α → Value) (ke : κ → κ → Bool) (B : GH) (v : Value) (d : List (κ × α)) : Prop := ∃ b o,B=[(b,o)]∧v=.map (some b)∧MO ck cv ke d o
section
variable {κ α : Type} {ke : κ → κ → Bool}
theorem find_none {d : List (κ × α)} {k : κ} (h : (d.map (·.1)).findIdx? (ke k)=none) : mfind ke d k=none∧(∀ v,mset ke d k v=d++[(k,v)])∧mdel ke d k=d∧∀ p ∈ d,ke k p.1=false := by
 induction d with
 | nil=>exact ⟨rfl,fun v=>rfl,rfl,by simp⟩
 | cons p d ih =>
  simp only [List.map_cons,List.findIdx?_cons] at h
  split at h
  ·cases h
  ·rename_i hk
   have hk' : ke k p.1=false := by simpa using hk
   obtain ⟨h1,h2,h3,h4⟩ := ih (by simpa using h)
   refine ⟨by simp [mfind,hk',h1],fun v=>by simp [mset,hk',h2 v],?_,?_⟩
   ·unfold mdel at h3 ⊢
    rw [List.filter_cons,hk',h3]; rfl
   ·intro q hq
    rcases List.mem_cons.1 hq with rfl | hq
    ·exact hk'
    ·exact h4 q hq
theorem find_some {d : List (κ × α)} {k : κ} {i : Nat} (h : (d.map (·.1)).findIdx? (ke k)=some i) : ∃ hi : i < d.length,ke k d[i].1=true∧mfind ke d k=some d[i].2∧(∀ v,mset ke d k v=d.set i (d[i].1,v)) ∧
  ((∀ p q : κ × α,ke k p.1=true → ke q.1 p.1=false → ke k q.1=false) → d.Pairwise (fun p q=>ke q.1 p.1=false) → mdel ke d k=d.eraseIdx i) := by
 induction d generalizing i with
 | nil=>simp at h
 | cons p d ih =>
  simp only [List.map_cons,List.findIdx?_cons] at h
  split at h
  ·rename_i hk
   cases h
   refine ⟨by simp,hk,by simp [mfind,hk],fun v=>by simp [mset,hk],fun he hp=>?_⟩
   simp only [List.eraseIdx_zero,List.tail_cons,mdel]
   rw [List.filter_cons,hk]
   simp only [Bool.not_true,Bool.false_eq_true,if_false]
   rw [List.filter_eq_self]
   intro q hq
   have := he p q hk ((List.pairwise_cons.1 hp).1 q hq)
   simp [this]
  ·rename_i hk
   have hk' : ke k p.1=false := by simpa using hk
   obtain ⟨j,hj,rfl⟩ := Option.map_eq_some_iff.1 h
   obtain ⟨h1,h2,h3,h4,h5⟩ := ih hj
   refine ⟨by simp; omega,by simpa using h2,by simp [mfind,hk',h3],fun v=>by simp [mset,hk',h4 v],fun he hp=>?_⟩
   have := h5 he (List.pairwise_cons.1 hp).2
   unfold mdel at this ⊢
   rw [List.filter_cons,hk',this]; rfl
end
section
variable {κ α : Type} {P : Program} {kt et : TypeId} {ck : κ → Value} {cv : α → Value} {ke : κ → κ → Bool}
theorem KeyT.look (hk : KeyT P kt ck ke) {d : List (κ × α)} {es : Array MapEntry} (he : es.toList.map (fun e=>(e.key,e.val))=d.map (fun p=>(ck p.1,cv p.2))) (k : κ) (w : World) :
  (∃ i,(d.map (·.1)).findIdx? (ke k)=some i∧∃ (hi : i < d.length) (hj : i < es.size),es[i].key=ck d[i].1∧es[i].val=cv d[i].2∧(Instr.findKey kt (ck k) es.toList).run P w=.ok (some (i,es[i].val)) w) ∨
  ((d.map (·.1)).findIdx? (ke k)=none∧(Instr.findKey kt (ck k) es.toList).run P w=.ok none w) := by
 have hkeys : es.toList.map (·.key)=(d.map (·.1)).map ck := by
  have := congrArg (List.map Prod.fst) he
  simpa [List.map_map,Function.comp_def] using this
 have hl : es.size=d.length := by simpa using congrArg List.length he
 have hf := hk.find k es.toList (d.map (·.1)) w hkeys
 cases hi : (d.map (·.1)).findIdx? (ke k) with
 | none=>rw [hi] at hf; exact .inr ⟨rfl,hf⟩
 | some i =>
  obtain ⟨h1,_⟩ := find_some hi
  have h2 : i < es.size := by omega
  have h3 : es.toList[i]? = some es[i] := by simp [h2]
  have h4 := congrArg (fun l=>l[i]?) he
  simp only [List.getElem?_map,h3,List.getElem?_eq_getElem h1,Option.map_some,Option.some.injEq,Prod.mk.injEq] at h4
  refine .inl ⟨i,rfl,h1,h2,h4.1,h4.2,?_⟩
  rw [hf,hi]
  simp [h2]
theorem MO.upd {d : List (κ × α)} {es : Array MapEntry} {clock i : Nat} {f : MapEntry → MapEntry} {v : α} (he : es.toList.map (fun e=>(e.key,e.val))=d.map (fun p=>(ck p.1,cv p.2))) (hb : ∀ e ∈ es.toList,e.born < clock) (hn : (es.toList.map (·.born)).Nodup)
  (hp : d.Pairwise fun p q=>ke q.1 p.1=false) (hi : i < d.length) (hf : ∀ e,(f e).born=e.born) (hj : i < es.size) (h1 : (f es[i]).key=ck d[i].1) (h2 : (f es[i]).val=cv v) : MO ck cv ke (d.set i (d[i].1,v)) (.map (es.modify i f) clock) := by
 have hl : es.size=d.length := by simpa using congrArg List.length he
 have hborn : (es.modify i f).toList.map (·.born)=es.toList.map (·.born) := by
  apply List.ext_getElem (by simp)
  intro n h3 h4
  simp only [Array.toList_modify,List.getElem_map,List.getElem_modify]
  split
  ·rw [hf]
  ·rfl
 refine ⟨_,_,rfl,?_,?_,by rw [hborn]; exact hn,?_⟩
 ·apply List.ext_getElem (by simp [hl])
  intro n h3 h4
  have hn1 : n < es.size := by simpa using h3
  have hn2 : n < d.length := by omega
  simp only [Array.toList_modify,List.getElem_map,List.getElem_modify,List.getElem_set,Array.getElem_toList]
  by_cases hin : i=n
  ·subst hin
   simp only [if_pos]
   rw [h1,h2]
  ·rw [if_neg hin,if_neg hin]
   have := congrArg (fun l=>l[n]?) he
   simp only [List.getElem?_map,Array.getElem?_toList,Array.getElem?_eq_getElem hn1,List.getElem?_eq_getElem hn2,Option.map_some,Option.some.injEq] at this
   exact this
 ·intro e hm
  have : e.born ∈ (es.modify i f).toList.map (·.born) := List.mem_map_of_mem hm
  rw [hborn] at this
  obtain ⟨e',h3,h4⟩ := List.mem_map.1 this
  rw [← h4]; exact hb e' h3
 ·rw [List.pairwise_iff_getElem] at hp ⊢
  intro a b ha hb' hab
  simp only [List.length_set] at ha hb'
  have := hp a b ha hb' hab
  simp only [List.getElem_set]
  by_cases h3 : i=a <;> by_cases h4 : i=b <;> simp only [h3,h4,if_true,if_false] <;> first | (subst h3; subst h4; omega) | (subst h3; simp [h4]; exact this) | (subst h4; simp [h3]; exact this) | (simp [h3,h4]; exact this) | skip
  all_goals (try (subst h3)); (try (subst h4)); simp_all
theorem MO.push {d : List (κ × α)} {es : Array MapEntry} {clock : Nat} {k : κ} {v : α} (he : es.toList.map (fun e=>(e.key,e.val))=d.map (fun p=>(ck p.1,cv p.2))) (hb : ∀ e ∈ es.toList,e.born < clock) (hn : (es.toList.map (·.born)).Nodup)
  (hp : d.Pairwise fun p q=>ke q.1 p.1=false) (hk : ∀ p ∈ d,ke k p.1=false) : MO ck cv ke (d++[(k,v)]) (.map (es.push { key := ck k,val := cv v,born := clock }) (clock + 1)) := by
 refine ⟨_,_,rfl,by simp [he],?_,?_,?_⟩
 ·intro e hm
  simp only [Array.toList_push,List.mem_append,List.mem_singleton] at hm
  rcases hm with hm | rfl
  ·have := hb e hm; omega
  ·exact Nat.lt_succ_self _
 ·simp only [Array.toList_push,List.map_append,List.map_cons,List.map_nil]
  rw [List.nodup_append]
  refine ⟨hn,by simp,fun a ha b hb' => ?_⟩
  obtain ⟨e,h1,rfl⟩ := List.mem_map.1 ha
  simp only [List.mem_singleton] at hb'
  have := hb e h1
  omega
 ·rw [List.pairwise_append]
  refine ⟨hp,by simp,fun p hp' q hq=>?_⟩
  simp only [List.mem_singleton] at hq
  subst hq
  exact hk p hp'
theorem erase_map {α β : Type} (f : α → β) : ∀ (l : List α) (i : Nat),(l.eraseIdx i).map f=(l.map f).eraseIdx i
 | [],_=>rfl
 | _::_,0=>rfl
 | a::l,i + 1=>by simp [List.eraseIdx_cons_succ,erase_map f l i]
theorem MO.erase {d : List (κ × α)} {es : Array MapEntry} {clock i : Nat} (he : es.toList.map (fun e=>(e.key,e.val))=d.map (fun p=>(ck p.1,cv p.2))) (hb : ∀ e ∈ es.toList,e.born < clock) (hn : (es.toList.map (·.born)).Nodup)
  (hp : d.Pairwise fun p q=>ke q.1 p.1=false) : MO ck cv ke (d.eraseIdx i) (.map (es.eraseIdxIfInBounds i) clock) := by
 have e1 : (es.eraseIdxIfInBounds i).toList=es.toList.eraseIdx i := by simp
 refine ⟨_,_,rfl,?_,?_,?_,?_⟩
 ·rw [e1,erase_map,he,erase_map]
 ·intro e hm
  rw [e1] at hm
  exact hb e (List.mem_of_mem_eraseIdx hm)
 ·rw [e1,erase_map]
  exact hn.sublist (List.eraseIdx_sublist _ _)
 ·exact hp.sublist (List.eraseIdx_sublist _ _)
end
section
variable {κ α : Type} {P : Program} {n : Nat} {w0 : World} {env : Env} {H R B : GH} {Q : Exit → Act → World → Prop} {ops : Array Oper} {rest : List Oper}
variable {d : Option Nat} {op : Op} {ty : TypeId} {pos : String} {af : Array Edge} {g : Option (Nat × Bool)}
variable {t kt et : TypeId} {x y u : Operand} {v : Value} {ck : κ → Value} {cv : α → Value} {ke : κ → κ → Bool} {m : List (κ × α)} {k : κ} {z e : α}
theorem gO_map {w : World} {b : Nat} {es : Array MapEntry} {clock : Nat} (hb : w.heap[b]? = some (.map es clock)) : (getObj b).run P w=.ok (.map es clock) w := by
 simp [getObj,Sem.run,hb]
theorem sO_map {w : World} {b : Nat} {es : Array MapEntry} {clock : Nat} (o' : Obj) (hb : w.heap[b]? = some (.map es clock)) : (setObj b o').run P w=.ok () { w with heap := w.heap.setIfInBounds b o' } := by
 simp [setObj,Sem.run,hb]
theorem MJ.val (h : MJ ck cv ke B v m) : ∃ b,v=.map (some b) := let ⟨b,_,_,h,_⟩ := h; ⟨b,h⟩
theorem MJ.one (h : MJ ck cv ke B v m) : v.oneCell' = true := by obtain ⟨b,rfl⟩ := h.val; rfl
theorem o_mkmap (_hk : KeyT P kt ck ke) (_hu : P.underlying t=some (.map kt et)) :
  OT P w0 env H ⟨d,.makeMap t none,ty,pos,af,g⟩ (fun v' H' => ∃ B',H' = B' ++ H∧Cov w0 [] B' ∧ MJ ck cv ke B' v' ([] : List (κ × α))) :=
 OT.val fun a w ha hs=>by
  refine ⟨.map (some w.heap.size),w.alloc (.map #[] 0),(w.heap.size,.map #[] 0)::H,by simp [execOp,Instr.makeMap,newObj,Sem.run],hs.alloc _,[(w.heap.size,.map #[] 0)],rfl,Cov.new hs.size,?_⟩
  exact ⟨_,_,rfl,rfl,#[],0,rfl,rfl,by simp,by simp,List.Pairwise.nil⟩
theorem run_look (hk : KeyT P kt ck ke) (hu : P.underlying t=some (.map kt et)) (hz : ZeroT P et (cv z)) {b : Nat} {es : Array MapEntry} {clock : Nat} {w : World} (hb : w.heap[b]? = some (.map es clock))
  (he : es.toList.map (fun e=>(e.key,e.val))=m.map (fun p=>(ck p.1,cv p.2))) (ok : Bool) :
  (Instr.lookup t (.map (some b)) (ck k) ok).run P w=.ok (if ok then .tuple #[cv (mget ke m k z),.bool (mhas ke m k)] else cv (mget ke m k z)) w := by
 simp only [Instr.lookup,Sem.run_bind,run_underlying hu,Result.andThen_ok,gO_map hb,hk.check]
 rcases hk.look he k w with ⟨i,hi,h1,h2,h3,h4,h5⟩ | ⟨hi,h5⟩
 ·obtain ⟨_,_,hf,_⟩ := find_some hi
  simp only [h5,Sem.run_bind,Result.andThen_ok,Sem.run_pure,mget,mhas,hf,Option.getD_some,Option.isSome_some,h4]
 ·obtain ⟨hf,_⟩ := find_none hi
  simp only [h5,Sem.run_bind,Result.andThen_ok,Sem.run_pure,mget,mhas,hf,Option.getD_none,Option.isSome_none,hz.run]
theorem o_lk (hk : KeyT P kt ck ke) (hu : P.underlying t=some (.map kt et)) (hz : ZeroT P et (cv z)) (hx : ev env x=some v) (hy : ev env y=some (ck k)) (hJ : MJ ck cv ke B v m) (hB : ∀ q ∈ B,q ∈ H) :
  OT P w0 env H ⟨d,.lookup t x y false,ty,pos,af,g⟩ (Is (cv (mget ke m k z)) H) :=
 OT.val fun a w ha hs=>by
  obtain ⟨b,o,rfl,rfl,es,clock,rfl,he,_⟩ := hJ
  have hb := hs.own b _ (hB _ (List.mem_singleton.2 rfl))
  exact ⟨_,w,H,by simp [execOp,ha.ev hx,ha.ev hy,run_look hk hu hz hb he],hs,rfl,rfl⟩
theorem o_lkok (hk : KeyT P kt ck ke) (hu : P.underlying t=some (.map kt et)) (hz : ZeroT P et (cv z)) (hx : ev env x=some v) (hy : ev env y=some (ck k)) (hJ : MJ ck cv ke B v m) (hB : ∀ q ∈ B,q ∈ H) :
  OT P w0 env H ⟨d,.lookup t x y true,ty,pos,af,g⟩ (Is (.tuple #[cv (mget ke m k z),.bool (mhas ke m k)]) H) :=
 OT.val fun a w ha hs=>by
  obtain ⟨b,o,rfl,rfl,es,clock,rfl,he,_⟩ := hJ
  have hb := hs.own b _ (hB _ (List.mem_singleton.2 rfl))
  exact ⟨_,w,H,by simp [execOp,ha.ev hx,ha.ev hy,run_look hk hu hz hb he],hs,rfl,rfl⟩
theorem St.map {w : World} {b : Nat} {o o' : Obj} (hs : St w0 ([(b,o)]++R) w) : St w0 ([(b,o')]++R) { w with heap := w.heap.setIfInBounds b o' } := by
 have hb := hs.own b o (by simp)
 have hlt : b < w.heap.size := (Array.getElem?_eq_some_iff.1 hb).1
 exact hs.upd (.here b o o' R) (by simp [hlt]) (fun k hk=>by simp [Ne.symm hk]) rfl rfl rfl (by simp)
theorem run_mset (hk : KeyT P kt ck ke) (hu : P.underlying t=some (.map kt et)) {b : Nat} {o : Obj} {w : World} (hb : w.heap[b]? = some o) (hM : MO ck cv ke m o) :
  ∃ o',(Instr.mapUpdate t (.map (some b)) (ck k) (cv e)).run P w=.ok () { w with heap := w.heap.setIfInBounds b o' } ∧ MO ck cv ke (mset ke m k e) o' := by
 obtain ⟨es,clock,rfl,he,hborn,hn,hp⟩ := hM
 rcases hk.look he k w with ⟨i,hi,h1,h2,h3,h4,h5⟩ | ⟨hi,h5⟩
 ·obtain ⟨_,hke,hf,hset,_⟩ := find_some hi
  refine ⟨.map (es.modify i fun q=>{ q with key := ck k,val := cv e }) clock,?_,?_⟩
  ·have hst := hk.stays k m[i].1 w hke
   rw [← h3] at hst
   simp only [Instr.mapUpdate,Sem.run_bind,run_underlying hu,Result.andThen_ok,gO_map hb,hk.check,h5]
   simp only [Array.getElem?_eq_getElem h2,Option.map_some,Option.getD_some,hst,Result.andThen_ok,sO_map _ hb]
  ·rw [hset]
   exact MO.upd he hborn hn hp h1 (fun _=>rfl) h2 (hk.same _ _ hke) rfl
 ·obtain ⟨hf,hset,_,hno⟩ := find_none hi
  refine ⟨_,?_,by rw [hset]; exact MO.push he hborn hn hp hno⟩
  simp only [Instr.mapUpdate,Sem.run_bind,run_underlying hu,Result.andThen_ok,gO_map hb,hk.check,h5,sO_map _ hb]
theorem o_mset (hk : KeyT P kt ck ke) (hu : P.underlying t=some (.map kt et)) (hx : ev env x=some v) (hy : ev env y=some (ck k)) (hz : ev env u=some (cv e)) (hJ : MJ ck cv ke B v m) :
  OT P w0 env (B++R) ⟨d,.mapUpdate t x y u,ty,pos,af,g⟩ (fun _ H' => ∃ B',H' = B' ++ R∧Cov w0 B B' ∧ MJ ck cv ke B' v (mset ke m k e)) :=
 OT.skip fun a w ha hs=>by
  obtain ⟨b,o,rfl,rfl,hM⟩ := hJ
  obtain ⟨o',hr,hM'⟩ := run_mset (e := e) (k := k) hk hu (hs.own b o (by simp)) hM
  exact ⟨_,_,by simp [execOp,ha.ev hx,ha.ev hy,ha.ev hz,hr],hs.map,[(b,o')],rfl,Cov.cons (Cov.refl _),b,o',rfl,rfl,hM'⟩
theorem OT.push {Φ : Value → GH → Prop} {o : Oper} (F : GH → GH) (hF : ∀ C,Pull (F C) C R) (h : OT P w0 env H o (fun v H' => ∃ C,H' = C++R∧Φ v C)) : OT P w0 env H o (fun v H' => ∃ C,H' = F C∧Φ v C) := by
 intro a w ha hs
 refine wp_mono2 ?_ (fun _ _ _ h=>h.elim) (h a w ha hs)
 rintro a' w' ⟨v,H',rfl,hst,C,rfl,hC⟩
 exact ⟨v,F C,rfl,(hF C).push hst,C,rfl,hC⟩
end
section
variable {P : Program} {n : Nat} {w0 : World} {ops : Array Oper} {KS : List Nat} {env0 env : Env} {dn : List Nat} {H RS A B : GH} {Q : Exit → Act → World → Prop}
theorem rsN : ∀ x ∈ ([] : GH),x ∈ H := fun _ h=>absurd h List.not_mem_nil
theorem rsC {y : Nat × Obj} (h : y ∈ H) (k : ∀ x ∈ A,x ∈ H) : ∀ x ∈ y::A,x ∈ H := fun x hx=>(List.mem_cons.1 hx).elim (fun e=>e ▸ h) (k x)
theorem rsA (h : ∀ x ∈ A,x ∈ H) (k : ∀ x ∈ B,x ∈ H) : ∀ x ∈ A++B,x ∈ H := fun x hx=>(List.mem_append.1 hx).elim (h x) (k x)
theorem xd_sh1 {H' : GH} (e : H=H') (h : (∀ k ∈ keys H',k ∈ KS∨w0.heap.size≤k)∧XD P n w0 ops KS env0 dn env H' RS Q) : (∀ k ∈ keys H,k ∈ KS∨w0.heap.size≤k)∧XD P n w0 ops KS env0 dn env H RS Q := e ▸ h
theorem xd_sh2 {H' : GH} (e : H=H') (h : (∀ x ∈ RS,x ∈ H')∧(∀ k ∈ keys H',k ∈ KS∨w0.heap.size≤k)∧XD P n w0 ops KS env0 dn env H' RS Q) : (∀ x ∈ RS,x ∈ H)∧(∀ k ∈ keys H,k ∈ KS∨w0.heap.size≤k)∧XD P n w0 ops KS env0 dn env H RS Q := e ▸ h
theorem xd_b (hok : RegOK n ops=true) (i : Nat) {o : Oper} {d : Nat} {v : Value} (l : Env) (rs : GH) (hR : ∀ x ∈ rs,x ∈ H) (ho : ops[i]? = some o) (hd : o.dst=some d) (hn : dn.contains i=false) (hl : Live env l) (hs : slotsOK ops dn i (l.map (·.1))=true) (hw : Wt ops l o.guard)
  (ht : ∀ H',(∀ x ∈ rs,x ∈ H') → (∀ k ∈ keys H',k ∈ KS∨w0.heap.size≤k) → OT P w0 l H' o (Is v H')) (k : XD P n w0 ops KS env0 (i::dn) ((d,v)::env) H (rs++RS) Q) : XD P n w0 ops KS env0 dn env H RS Q :=
 xd_take hok i l rs ho hd hn hl hs hR (fun H' h h2=>.inl ⟨hw,ht H' h h2⟩) k
end
section
variable {P : Program} {w0 : World} {env : Env} {H : GH} {d : Option Nat} {ty t : TypeId} {pos : String} {af : Array Edge} {g : Option (Nat × Bool)} {N s : Nat}
end
end Go.E
namespace Go.E
open Go
section
variable {P : Program} {kt : TypeId}
theorem check_int (hu : P.underlying kt=some (.int .i64)) (b : Bool) (d : Nat) (k : Int) (w : World) : (Instr.checkKey b (d + 1) kt (.int .i64 k)).run P w=.ok () w := by
 simp [Instr.checkKey,run_underlying hu]
theorem keyT_int (hu : P.underlying kt=some (.int .i64)) : KeyT P kt (fun x=>.int .i64 x) ieq := by
 refine ⟨fun b k w=>?_,fun k es ks w he=>?_,fun a b w h=>?_,fun a b h=>?_,fun a b c h1 h2=>?_,fun a=>by simp [ieq]⟩
 ·exact check_int hu b 9999 k w
 ·have key : ∀ (ks : List Int) (es : List MapEntry) (i : Nat),es.map (·.key)=ks.map (fun x=>Value.int .i64 x) → Instr.findNow (.int .i64) (.int .i64 k) es i=some ((ks.findIdx? (ieq k)).bind fun j=>(es[j]?).map fun e=>(i + j,e.val)) := by
   intro ks
   induction ks with
   | nil=>intro es i h; cases es with
    | nil=>rfl
    | cons=>simp at h
   | cons q ks ih =>
    intro es i h
    cases es with
    | nil=>simp at h
    | cons e es =>
     simp only [List.map_cons,List.cons.injEq] at h
     simp only [Instr.findNow,h.1,Instr.sameNow,if_true,List.findIdx?_cons,ieq]
     by_cases hq : k=q
     ·subst hq; simp
     ·have hq' : (k == q)=false := by simpa using hq
      have e1 := ih es (i + 1) h.2
      simp only [hq',e1,Bool.false_eq_true,if_false,ieq]
      cases hf : ks.findIdx? fun b=>k == b with
      | none =>
       have : ks.findIdx? (ieq k)=none := hf
       simp [this]
      | some j =>
       have : ks.findIdx? (ieq k)=some j := hf
       simp [this,Nat.add_assoc,Nat.add_comm 1 j]
  have := key ks es 0 he
  simp only [Nat.zero_add] at this
  simp only [Instr.findKey,Sem.run_bind,run_underlying hu,Result.andThen_ok,this,Sem.run_pure]
 ·simp only [ieq,beq_iff_eq] at h
  subst h
  simp [Instr.keyThatStays,Instr.sameBits]
 ·simp only [ieq,beq_iff_eq] at h
  rw [h]
 ·simp only [ieq,beq_iff_eq] at h1 h2 ⊢
  omega
end
end Go.E
namespace Go.E
open Go
section
variable {κ α : Type} {P : Program} {n : Nat} {w0 : World} {env : Env} {H R B : GH}
variable {d : Option Nat} {op : Op} {ty : TypeId} {pos : String} {af : Array Edge} {g : Option (Nat × Bool)}
variable {t kt et : TypeId} {x y u : Operand} {v : Value} {ck : κ → Value} {cv : α → Value} {ke : κ → κ → Bool} {m : List (κ × α)} {k : κ} {z e : α} {s : Nat}
end
end Go.E
namespace Go.E
open Go
def RM {α : Type} (T : TypeId) (s : Nat) (c : α → Nat → Value) (B : GH) (v : Value) (l : List α) (x : Nat) : Prop :=
 ∃ b o cap N F,(b,BK N F T) ∈ B∧v=.slice (some ⟨b,o,none⟩) l.length cap∧l.length + x≤cap∧o + cap * s≤N∧cap≤maxLen∧∀ i,i < l.length * s → F (o + i)=eG s c l i
section
variable {α : Type} {P : Program} {w0 : World} {env : Env} {H B : GH} {d : Option Nat} {ty t : TypeId} {pos : String} {af : Array Edge} {g : Option (Nat × Bool)}
variable {x : Operand} {s : Nat} {c : α → Nat → Value} {v : Value} {l : List α} {T e : TypeId}
theorem RM.oj {k : Nat} (h : RM T s c B v l k) : OJ T s c B v l := by
 obtain ⟨b,o,cap,N,F,h1,h2,h3,h4,h5,h6⟩ := h
 exact .inr ⟨b,o,cap,N,F,h1,h2,by omega,h4,h5,h6⟩
end
end Go.E
namespace Go.E
open Go
theorem Wh.all {ρ : Type} {f : Int → Int ⊕ ρ → Prop} (n : Nat) (p : Nat → Bool) (rt rf : ρ) (hgo : ∀ k : Nat,k < n → p k=true → f k (.inl ((k : Int) + 1))) (hbad : ∀ k : Nat,k < n → p k=false → f k (.inr rf)) (hend : f n (.inr rt)) :
  Wh f 0 (if (List.range n).all p=true then rt else rf) := by
 have key : ∀ j k : Nat,k + j=n → Wh f (k : Int) (if (List.range' k j).all p=true then rt else rf) := by
  intro j
  induction j with
  | zero =>
   intro k hk
   obtain rfl : k=n := by omega
   simp only [List.range'_zero,List.all_nil,if_true]
   exact .out hend
  | succ j ih =>
   intro k hk
   simp only [List.range'_succ,List.all_cons,Bool.and_eq_true]
   by_cases hp : p k=true
   ·have := ih (k + 1) (by omega)
    simp only [hp,true_and]
    exact .again (hgo k (by omega) hp) this
   ·rw [if_neg (fun h=>hp h.1)]
    exact .out (hbad k (by omega) (by simpa using hp))
 have := key n 0 (by omega)
 rwa [← List.range_eq_range'] at this
theorem ite_intro {c p q : Prop} [Decidable c] (h1 : c → p) (h2 : ¬ c → q) : if c then p else q := by
 by_cases h : c
 ·rw [if_pos h]; exact h1 h
 ·rw [if_neg h]; exact h2 h
theorem Wh.fold {σ ρ : Type} {f : σ → σ ⊕ ρ → Prop} (n : Nat) (st : Nat → σ) (r : ρ) (h : ∀ k,k < n → f (st k) (.inl (st (k + 1)))) (hn : f (st n) (.inr r)) : Wh f (st 0) r := Wh.upto st n h hn
end Go.E
namespace Go.E
open Go
structure Eqk {κ : Type} (ke : κ → κ → Bool) : Prop where
 refl : ∀ a,ke a a=true
 symm : ∀ a b,ke a b=true → ke b a=true
 trans : ∀ a b c,ke a b=true → ke b c=true → ke a c=true
theorem eqk_int : Eqk ieq := ⟨fun a=>by simp [ieq],fun a b h=>by simp [ieq] at h ⊢; omega,fun a b c h k=>by simp [ieq] at h k ⊢; omega⟩
section
variable {κ α : Type} {ke : κ → κ → Bool}
theorem mfind_mset (E : Eqk ke) (d : List (κ × α)) (k : κ) (v : α) (k' : κ) : mfind ke (mset ke d k v) k' = if ke k' k=true then some v else mfind ke d k' := by
 induction d with
 | nil=>simp [mset,mfind]
 | cons p d ih =>
  simp only [mset]
  by_cases h : ke k p.1=true
  ·rw [if_pos h]
   simp only [mfind]
   have : ke k' p.1=ke k' k := by
    rw [Bool.eq_iff_iff]
    exact ⟨fun h1=>E.trans _ _ _ h1 (E.symm _ _ h),fun h1=>E.trans _ _ _ h1 h⟩
   rw [this]
   by_cases h2 : ke k' k=true <;> simp [h2]
  ·rw [if_neg h]
   simp only [mfind,ih]
   by_cases h2 : ke k' p.1=true
   ·have h3 : ¬ ke k' k=true := fun h3=>h (E.trans _ _ _ (E.symm _ _ h3) h2)
    simp [h2,h3]
   ·simp [h2]
theorem mget_mset (E : Eqk ke) (d : List (κ × α)) (k : κ) (v : α) (k' : κ) (z : α) : mget ke (mset ke d k v) k' z=if ke k' k=true then v else mget ke d k' z := by
 unfold mget
 rw [mfind_mset E]
 split <;> rfl
theorem mhas_mset (E : Eqk ke) (d : List (κ × α)) (k : κ) (v : α) (k' : κ) : mhas ke (mset ke d k v) k' = (ke k' k || mhas ke d k') := by
 unfold mhas
 rw [mfind_mset E]
 by_cases h : ke k' k=true
 ·simp [h]
 ·have h' : ke k' k=false := by simpa using h
  simp [h']
theorem mget_none {d : List (κ × α)} {k : κ} {z : α} (h : mhas ke d k=false) : mget ke d k z=z := by
 unfold mhas at h
 unfold mget
 cases hf : mfind ke d k <;> simp_all
end
end Go.E
namespace Go.E
open Go
theorem Wh.find {ρ : Type} {f : Int → Int ⊕ ρ → Prop} (n : Nat) (p : Nat → Bool) (rt : ρ) (rf : Nat → ρ) (hgo : ∀ k : Nat,k < n → p k=false → f k (.inl ((k : Int) + 1))) (hbad : ∀ k : Nat,k < n → p k=true → f k (.inr (rf k))) (hend : f n (.inr rt)) :
  ∃ r,Wh f 0 r∧((r=rt∧(List.range n).any p=false)∨∃ k,k < n∧r=rf k∧(List.range n).any p=true) := by
 have key : ∀ j k : Nat,k + j=n → ∃ r,Wh f (k : Int) r∧((r=rt∧∀ i,k≤i → i < n → p i=false)∨∃ i,i < n∧r=rf i∧p i=true) := by
  intro j
  induction j with
  | zero =>
   intro k hk
   obtain rfl : k=n := by omega
   exact ⟨rt,.out hend,.inl ⟨rfl,fun i h1 h2=>by omega⟩⟩
  | succ j ih =>
   intro k hk
   by_cases hp : p k=true
   ·exact ⟨rf k,.out (hbad k (by omega) hp),.inr ⟨k,by omega,rfl,hp⟩⟩
   ·obtain ⟨r,h1,h2⟩ := ih (k + 1) (by omega)
    refine ⟨r,.again (hgo k (by omega) (by simpa using hp)) h1,?_⟩
    rcases h2 with ⟨h2,h3⟩ | h2
    ·refine .inl ⟨h2,fun i h4 h5=>?_⟩
     by_cases hik : i=k
     ·subst hik; simpa using hp
     ·exact h3 i (by omega) h5
    ·exact .inr h2
 obtain ⟨r,h1,h2⟩ := key n 0 (by omega)
 refine ⟨r,h1,?_⟩
 rcases h2 with ⟨h2,h3⟩ | ⟨i,h2,h3,h4⟩
 ·refine .inl ⟨h2,?_⟩
  rw [← Bool.not_eq_true]
  intro h
  obtain ⟨i,hi,hp⟩ := List.any_eq_true.1 h
  rw [h3 i (by omega) (List.mem_range.1 hi)] at hp
  cases hp
 ·exact .inr ⟨i,h2,h3,List.any_eq_true.2 ⟨i,List.mem_range.2 h2,h4⟩⟩
theorem any_range {α : Type} [Inhabited α] (l : List α) (q : α → Bool) : (List.range l.length).any (fun k=>q (l[k]!))=l.any q := by
 rw [Bool.eq_iff_iff,List.any_eq_true,List.any_eq_true]
 constructor
 ·rintro ⟨k,hk,hq⟩
  have hk := List.mem_range.1 hk
  rw [getElem!_pos l k hk] at hq
  exact ⟨l[k],List.getElem_mem hk,hq⟩
 ·rintro ⟨x,hx,hq⟩
  obtain ⟨k,hk,rfl⟩ := List.getElem_of_mem hx
  exact ⟨k,List.mem_range.2 hk,by rw [getElem!_pos l k hk]; exact hq⟩
theorem step1 {k : Nat} (h : k < 9000000000000000000) : inI64 ((k : Int) + 1) := ⟨by omega,by omega⟩
end Go.E
namespace Go.E
open Go
end Go.E
namespace Go.E
open Go
theorem eqN2 (f g : Nat → Int) : eqN 2 f g=(decide (f 0=g 0) && decide (f 1=g 1)) := by
 rw [Bool.eq_iff_iff,eqN_iff]
 simp only [Bool.and_eq_true,decide_eq_true_eq]
 exact ⟨fun h=>⟨h 0 (by omega),h 1 (by omega)⟩,fun h i hi=>by
  rcases (show i=0∨i=1 by omega) with rfl | rfl
  ·exact h.1
  ·exact h.2⟩
def inB (n a b : Int) : Bool := decide (a≤n) && decide (n≤b)
def txB (n : Int) : Bool := inB n 1 1048576
def shB (n : Int) : Bool := inB n 1 64
def endsB (m : Nat → Int) : Bool :=
 if m 0=11 then (if m 1=0 then shB (m 2) else shB (m 1) && decide (m 2=0))
 else if m 0=1∨m 0=4∨m 0=6∨m 0=8 then decide (m 1=0) && shB (m 2)
 else shB (m 1) && decide (m 2=0)
def resB (t r : Int) : Bool := inB t 1 250 && inB r 0 250
def newB (m : Nat → Int) (i j : Nat) : Bool := (List.range j).all fun k=>!decide (m (12 + k * 2 + 0)=m (12 + (i * 2 + 0)))
def stepB (m : Nat → Int) (i : Nat) : Bool :=
 if m 11≤i then decide (m (12 + (i * 2 + 0))=0) && decide (m (12 + (i * 2 + 1))=0)
 else txB (m (12 + (i * 2 + 0))) && inB (m (12 + (i * 2 + 1))) 1 1048576 && newB m i i
def pathB (m : Nat → Int) : Bool := inB (m 11) 1 8 && txB (m 9) && inB (m 10) 0 1048576 && (List.range 8).all (stepB m)
def mayB (m : Nat → Int) : Bool :=
 if m 0=1∨m 0=2 then resB (m 5) (m 6) && inB (m 7) 1 4 && inB (m 4) 1 1048576 && txB (m 3)
 else if m 0=3 then inB (m 4) 1 1048576 && inB (m 8) 1 15 && txB (m 3)
 else if m 0=5∨m 0=6 then inB (m 8) 0 1 && txB (m 3)
 else if m 0=4∨m 0=7∨m 0=8∨m 0=9 then txB (m 3)
 else if m 0=10 then txB (m 3) && txB (m 9) && decide (m 9 < m 3)
 else if m 0=11 then pathB m else false
def mayZ (m : Nat → Int) : Nat → Int :=
 if m 0=1∨m 0=2 then updI (updI (updI (updRI m 5 2 (fun _=>0)) 7 0) 4 0) 3 0
 else if m 0=3 then updI (updI (updI (updI m 4 0) 8 0) 8 0) 3 0
 else if m 0=5∨m 0=6 then updI (updI m 8 0) 3 0
 else if m 0=4∨m 0=7∨m 0=8∨m 0=9 then updI m 3 0
 else if m 0=10 then updI (updI m 3 0) 9 0
 else if m 0=11 then updRI (updI (updI (updI m 11 0) 9 0) 10 0) 12 16 (fun _=>0) else m
def headM (m : Nat → Int) : Nat → Int := updI (updI (updI (fun _=>0) 0 (m 0)) 1 (m 1)) 2 (m 2)
def okB (m : Nat → Int) : Bool := endsB m && mayB m && eqN 28 (mayZ m) (headM m)
end Go.E
namespace Go.E
open Go
theorem stepB_rng {m : Nat → Int} {i : Nat} (h : stepB m i=true) : (0≤m (12 + (i * 2 + 0))∧m (12 + (i * 2 + 0))≤1048576)∧0≤m (12 + (i * 2 + 1))∧m (12 + (i * 2 + 1))≤1048576 := by
 unfold stepB at h
 split at h
 ·simp only [Bool.and_eq_true,decide_eq_true_eq] at h; omega
 ·simp only [Bool.and_eq_true,decide_eq_true_eq,txB,inB] at h; omega
theorem okB_rng {m : Nat → Int} (h : okB m=true) : (∀ k,(k=0∨k=1∨k=2∨k=5∨k=6∨k=7∨k=8∨k=11) → 0≤m k∧m k < 256)∧(∀ k,(k=3∨k=4∨k=9∨k=10∨12≤k) → k < 28 → 0≤m k∧m k < 4294967296) := by
 unfold okB at h
 simp only [Bool.and_eq_true] at h
 obtain ⟨⟨he,hm⟩,hq⟩ := h
 rw [eqN_iff] at hq
 have h012 : (0≤m 0∧m 0 < 12)∧(0≤m 1∧m 1≤64)∧0≤m 2∧m 2≤64 := by
  refine ⟨?_,?_⟩
  ·unfold mayB at hm
   repeat' split at hm
   all_goals first | omega | cases hm
  ·unfold endsB at he
   repeat' split at he
   all_goals (simp only [Bool.and_eq_true,decide_eq_true_eq,shB,inB] at he; omega)
 have key : ∀ k,3≤k → k < 28 → 0≤m k∧m k≤1048576∧(k=5∨k=6∨k=7∨k=8∨k=11 → m k < 256) := by
  intro k h3 h28
  have hk := hq k h28
  have hh : headM m k=0 := by simp only [headM,updI]; rw [if_neg (by omega),if_neg (by omega),if_neg (by omega)]
  rw [hh] at hk
  unfold mayZ at hk
  unfold mayB at hm
  repeat' split at hm
  ·rename_i h0
   rw [if_pos h0] at hk
   simp only [updI,updRI] at hk
   simp only [Bool.and_eq_true,resB,txB,inB,decide_eq_true_eq] at hm
   by_cases e3 : k=3
   ·subst e3; omega
   by_cases e4 : k=4
   ·subst e4; omega
   by_cases e5 : k=5
   ·subst e5; omega
   by_cases e6 : k=6
   ·subst e6; omega
   by_cases e7 : k=7
   ·subst e7; omega
   rw [if_neg e3,if_neg e4,if_neg e7,if_neg (by omega)] at hk
   omega
  ·rename_i h0 h1
   rw [if_neg h0,if_pos h1] at hk
   simp only [updI] at hk
   simp only [Bool.and_eq_true,txB,inB,decide_eq_true_eq] at hm
   by_cases e3 : k=3
   ·subst e3; omega
   by_cases e4 : k=4
   ·subst e4; omega
   by_cases e8 : k=8
   ·subst e8; omega
   rw [if_neg e3,if_neg e8,if_neg e8,if_neg e4] at hk
   omega
  ·rename_i h0 h1 h2
   rw [if_neg h0,if_neg h1,if_pos h2] at hk
   simp only [updI] at hk
   simp only [Bool.and_eq_true,txB,inB,decide_eq_true_eq] at hm
   by_cases e3 : k=3
   ·subst e3; omega
   by_cases e8 : k=8
   ·subst e8; omega
   rw [if_neg e3,if_neg e8] at hk
   omega
  ·rename_i h0 h1 h2 h4
   rw [if_neg h0,if_neg h1,if_neg h2,if_pos h4] at hk
   simp only [updI] at hk
   simp only [Bool.and_eq_true,txB,inB,decide_eq_true_eq] at hm
   by_cases e3 : k=3
   ·subst e3; omega
   rw [if_neg e3] at hk
   omega
  ·rename_i h0 h1 h2 h4 h5
   rw [if_neg h0,if_neg h1,if_neg h2,if_neg h4,if_pos h5] at hk
   simp only [updI] at hk
   simp only [Bool.and_eq_true,txB,inB,decide_eq_true_eq] at hm
   by_cases e3 : k=3
   ·subst e3; omega
   by_cases e9 : k=9
   ·subst e9; omega
   rw [if_neg e9,if_neg e3] at hk
   omega
  ·rename_i h0 h1 h2 h4 h5 h6
   rw [if_neg h0,if_neg h1,if_neg h2,if_neg h4,if_neg h5,if_pos h6] at hk
   simp only [updI,updRI] at hk
   unfold pathB at hm
   simp only [Bool.and_eq_true,txB,inB,decide_eq_true_eq,List.all_eq_true] at hm
   by_cases e9 : k=9
   ·subst e9; omega
   by_cases e10 : k=10
   ·subst e10; omega
   by_cases e11 : k=11
   ·subst e11; omega
   by_cases e12 : 12≤k
   ·have hst := stepB_rng (hm.2 ((k - 12) / 2) (List.mem_range.2 (by omega)))
    rcases (show k=12 + ((k - 12) / 2 * 2 + 0)∨k=12 + ((k - 12) / 2 * 2 + 1) by omega) with e | e
    ·rw [← e] at hst; omega
    ·rw [← e] at hst; omega
   rw [if_neg (by omega),if_neg e10,if_neg e9,if_neg e11] at hk
   omega
  ·cases hm
 refine ⟨fun k hk=>?_,fun k hk h28=>?_⟩
 ·rcases hk with rfl | rfl | rfl | hk
  ·omega
  ·omega
  ·omega
  ·have := key k (by omega) (by omega)
   have := this.2.2 (by omega)
   omega
 ·have := key k (by omega) h28
  omega
end Go.E
namespace Go.E
open Go
def kindsFs (P : Program) (rec : TypeId → Option (List IntKind)) : List Field → Nat → Option (List IntKind)
 | [],_=>some []
 | f::fs,o=>if f.offset=o then
  match rec f.type with
  | some ks=>if P.cellsOf f.type=ks.length then (kindsFs P rec fs (o + ks.length)).map (ks++·) else none
  | none=>none
  else none
def kinds (P : Program) : Nat → TypeId → Option (List IntKind)
 | 0,_=>none
 | k + 1,t=>match P.underlying t with
  | some (.int q)=>some [q]
  | some (.struct fs)=>kindsFs P (kinds P k) fs.toList 0
  | some (.array len e)=>match kinds P k e with
   | some ks=>if P.cellsOf e=ks.length then some (List.replicate len ks).flatten else none
   | none=>none
  | _=>none
def Ints (ks : List IntKind) (cs : List Value) : Prop := cs.length=ks.length∧∀ (i : Nat) (q : IntKind),ks[i]? = some q → ∃ n : Int,cs[i]? = some (Value.int q n)∧(Lit.int q n).wf=true
theorem Ints.nil : Ints [] [] := ⟨rfl,fun i q h=>by simp at h⟩
theorem Ints.app {a b : List IntKind} {u v : List Value} (h1 : Ints a u) (h2 : Ints b v) : Ints (a++b) (u++v) := by
 refine ⟨by simp [h1.1,h2.1],fun i q h=>?_⟩
 by_cases hi : i < a.length
 ·rw [List.getElem?_append_left hi] at h
  rw [List.getElem?_append_left (by rw [h1.1]; exact hi)]
  exact h1.2 i q h
 ·rw [List.getElem?_append_right (by omega)] at h
  rw [List.getElem?_append_right (by rw [h1.1]; omega),h1.1]
  exact h2.2 _ q h
section
variable {H : Type} {enc : TypeId × Value → H} {P : Program} {w : World} {base : Nat} {sp : Nat → Bool} {held : Bool}
theorem trod_kinds : ∀ (k : Nat) (t : TypeId) (ks : List IntKind),kinds P k t=some ks → P.cellsOf t=ks.length → ∀ (fuel : Nat) (cs : List Value) (x : DataW H × List MemPlace),
  DataW.trod enc P w base sp held fuel t cs=some x → x.2=[]∧Ints ks cs := by
 intro k
 induction k with
 | zero=>intro t ks h; simp [kinds] at h
 | succ k ih =>
  intro t ks h hc fuel cs x hx
  simp only [kinds] at h
  split at h
  ·rename_i q hu
   simp only [Option.some.injEq] at h
   subst h
   obtain ⟨n,rfl,rfl,hw⟩ := DataW.trod_int hu hx
   refine ⟨rfl,rfl,fun i q' hq=>?_⟩
   cases i with
   | zero=>simp at hq; subst hq; exact ⟨n,rfl,hw⟩
   | succ i=>simp at hq
  ·rename_i fs hu
   obtain ⟨xs,n,rfl,rfl,hl,hn,he⟩ := DataW.trod_struct hu hx
   have key : ∀ (l : List Field) (o : Nat) (ks : List IntKind),kindsFs P (kinds P k) l o=some ks → (∀ f ∈ l,∃ y,DataW.trod enc P w base sp held n f.type ((cs.drop f.offset).take (P.cellsOf f.type))=some y) → Ints ks ((cs.drop o).take ks.length) := by
    intro l
    induction l with
    | nil=>intro o ks h _; simp only [kindsFs,Option.some.injEq] at h; subst h; simpa using Ints.nil
    | cons f l ihl =>
     intro o ks h hy
     simp only [kindsFs] at h
     split at h
     ·rename_i ho
      split at h
      ·rename_i k1 hr
       split at h
       ·rename_i hsz
        simp only [Option.map_eq_some_iff] at h
        obtain ⟨k2,hk,rfl⟩ := h
        obtain ⟨y,hy1⟩ := hy f List.mem_cons_self
        have i1 := (ih _ _ hr hsz _ _ _ hy1).2
        have i2 := ihl _ _ hk fun f hf=>hy f (List.mem_cons_of_mem _ hf)
        rw [ho,hsz] at i1
        have := i1.app i2
        rwa [← List.drop_drop,← List.take_add,← List.length_append] at this
       ·cases h
      ·cases h
     ·cases h
   have each : ∀ (i : Nat) (f : Field),fs[i]? = some f → ∃ y,DataW.trod enc P w base sp held n f.type ((cs.drop f.offset).take (P.cellsOf f.type))=some y∧xs[i]? = some y := by
    intro i f hf
    have h1 := he i f hf
    have hi : i < xs.length := by rw [hn]; exact (Array.getElem?_eq_some_iff.1 hf).1
    exact ⟨xs[i],by rw [h1]; exact List.getElem?_eq_getElem hi,List.getElem?_eq_getElem hi⟩
   refine ⟨?_,?_⟩
   ·have kf : ∀ (l : List Field) (o : Nat) (ks : List IntKind),kindsFs P (kinds P k) l o=some ks → ∀ f ∈ l,∃ kk,kinds P k f.type=some kk∧P.cellsOf f.type=kk.length := by
     intro l
     induction l with
     | nil=>intro o ks _ f hf; simp at hf
     | cons f l ihl =>
      intro o ks h f' hf
      simp only [kindsFs] at h
      split at h
      ·split at h
       ·rename_i k1 hr
        split at h
        ·rename_i hsz
         simp only [Option.map_eq_some_iff] at h
         obtain ⟨k2,hk,rfl⟩ := h
         rcases List.mem_cons.1 hf with rfl | hf
         ·exact ⟨k1,hr,hsz⟩
         ·exact ihl _ _ hk f' hf
        ·cases h
       ·cases h
      ·cases h
    simp only [List.flatMap_eq_nil_iff]
    intro y hy
    obtain ⟨i,hi⟩ := List.getElem?_of_mem hy
    have hlt : i < fs.size := by rw [← hn]; exact (List.getElem?_eq_some_iff.1 hi).1
    obtain ⟨y',h1,h2⟩ := each i fs[i] (Array.getElem?_eq_getElem hlt)
    rw [hi] at h2
    cases h2
    obtain ⟨kk,hk,hz⟩ := kf _ _ _ h fs[i] (by simp)
    exact (ih _ _ hk hz _ _ _ h1).1
   ·have := key fs.toList 0 ks h fun f hf=>by
     obtain ⟨i,hi⟩ := List.getElem?_of_mem hf
     obtain ⟨y,h1,_⟩ := each i f (by rw [← hi]; simp)
     exact ⟨y,h1⟩
    rwa [List.drop_zero,List.take_of_length_le (by omega)] at this
  ·rename_i len e hu
   split at h
   ·rename_i k1 hr
    split at h
    ·rename_i hsz
     simp only [Option.some.injEq] at h
     subst h
     obtain ⟨xs,n,rfl,rfl,hl,hn,he⟩ := DataW.trod_array hu hx
     have each : ∀ i,i < len → ∃ y,DataW.trod enc P w base sp held n e ((cs.drop (i * P.cellsOf e)).take (P.cellsOf e))=some y∧xs[i]? = some y := by
      intro i hi
      have hi' : i < xs.length := by omega
      exact ⟨xs[i],by rw [he i hi]; exact List.getElem?_eq_getElem hi',List.getElem?_eq_getElem hi'⟩
     refine ⟨?_,?_⟩
     ·simp only [List.flatMap_eq_nil_iff]
      intro y hy
      obtain ⟨i,hi⟩ := List.getElem?_of_mem hy
      obtain ⟨y',h1,h2⟩ := each i (by rw [← hn]; exact (List.getElem?_eq_some_iff.1 hi).1)
      rw [hi] at h2
      cases h2
      exact (ih _ _ hr hsz _ _ _ h1).1
     ·have key : ∀ j,j≤len → Ints (List.replicate j k1).flatten (cs.take (j * k1.length)) := by
       intro j
       induction j with
       | zero=>intro _; simpa using Ints.nil
       | succ j ihj =>
        intro hj
        obtain ⟨y,h1,_⟩ := each j (by omega)
        have i1 := (ih _ _ hr hsz _ _ _ h1).2
        rw [hsz] at i1
        have := (ihj (by omega)).app i1
        rw [← List.take_add] at this
        rw [List.replicate_succ',List.flatten_append,Nat.succ_mul]
        simpa using this
      have := key len (Nat.le_refl _)
      rwa [List.take_of_length_le (by rw [hl,hc]; simp)] at this
    ·cases h
   ·cases h
  ·cases h
def intOf : Value → Int
 | .int _ n=>n
 | _=>0
def kc (ks : List IntKind) (m : Nat → Int) : Nat → Value := fun i=>.int (ks.getD i .i64) (m i)
def wfs (ks : List IntKind) (m : Nat → Int) : Prop := ∀ (i : Nat) (q : IntKind),ks[i]? = some q → (Lit.int q (m i)).wf=true
theorem kc_i64 (n : Nat) (m : Nat → Int) : kc (List.replicate n .i64) m=iv m := by
 funext i
 simp only [kc,iv,List.getD_eq_getElem?_getD,List.getElem?_replicate]
 split <;> rfl
theorem Ints.fn {ks : List IntKind} {cs : List Value} (h : Ints ks cs) : ∃ m,wfs ks m∧(∀ i,i < ks.length → cs[i]? = some (kc ks m i))∧cs=(List.range ks.length).map (kc ks m) := by
 have e : ∀ (i : Nat) (q : IntKind),ks[i]? = some q → cs[i]? = some (.int q (intOf (cs.getD i undef)))∧(Lit.int q (intOf (cs.getD i undef))).wf=true := by
  intro i q hq
  obtain ⟨n,h1,h2⟩ := h.2 i q hq
  have : intOf (cs.getD i undef)=n := by rw [List.getD_eq_getElem?_getD,h1]; rfl
  rw [this]; exact ⟨h1,h2⟩
 have f : ∀ i,i < ks.length → cs[i]? = some (kc ks (fun i=>intOf (cs.getD i undef)) i) := by
  intro i hi
  have := (e i ks[i] (List.getElem?_eq_getElem hi)).1
  rw [this,kc]
  rw [show ks.getD i .i64=ks[i] from by rw [List.getD_eq_getElem?_getD,List.getElem?_eq_getElem hi]; rfl]
 refine ⟨fun i=>intOf (cs.getD i undef),fun i q hq=>(e i q hq).2,f,?_⟩
 apply List.ext_getElem?
 intro i
 by_cases hi : i < ks.length
 ·rw [f i hi,List.getElem?_map,List.getElem?_range hi]; rfl
 ·rw [List.getElem?_eq_none (by rw [h.1]; omega),List.getElem?_eq_none (by simp; omega)]
theorem open_list {r : Reach} {b0 : Nat} {t e : TypeId} {v : Value} {d : DataW H} {ps : List MemPlace} {ks : List IntKind} (ht : P.underlying t=some (.slice e)) (hk : kinds P 9 e=some ks) (hc : P.cellsOf e=ks.length) (hp : 0 < ks.length)
  (hval : Value.okWide P w r b0 t v) (hd : DataW.Trod enc P w base sp held t v d ps) :
  ∃ l : LM,SL w ks.length (kc ks) v l∧(∀ m ∈ l,wfs ks m)∧((d=.nil∧l=[])∨∃ elems spare,d=.slice elems spare∧elems.length=l.length) := by
 obtain ⟨a,len,cap,rfl⟩ := WideShapes.okWide_slice ht hval
 obtain ⟨fuel,hx⟩ := hd
 rcases DataW.trod_slice ht hx with ⟨h1,h2⟩ | ⟨a',len',cap',elems,rest,n,rfl,h1,h2,hb,hl,hm,hn,he,-,-⟩
 ·have h1' : Value.slice a len cap=.slice none 0 0 := by simpa [Value.cells] using h1
  cases h1'; cases h2
  exact ⟨[],SL.nil,by simp,.inl ⟨rfl,rfl⟩⟩
 ·have h1' : Value.slice a len cap=.slice (some a') len' cap' := by simpa [Value.cells] using h1
  cases h1'; cases h2
  have each : ∀ i,i < len → ∃ m,wfs ks m∧∀ j,j < ks.length → w.cell? (a'.add (i * ks.length + j))=some (kc ks m j) := by
   intro i hi
   have h3 := he i hi
   rw [List.getElem?_eq_getElem (by omega)] at h3
   obtain ⟨cs,h4,h5⟩ := Option.bind_eq_some_iff.1 h3
   obtain ⟨_,h6⟩ := trod_kinds 9 e ks hk hc _ _ _ h5
   obtain ⟨m,hm,hf,_⟩ := h6.fn
   refine ⟨m,hm,fun j hj=>?_⟩
   have h7 := World.cells?_some h4
   rw [hc] at h7
   have := h7.2.2 j (by first | exact hj | omega)
   rw [hf j hj] at this
   rw [← this]
   rw [Addr.add_add]
  refine ⟨(List.range len).map fun i=>if h : i < len then (each i h).choose else fun _=>0,?_,?_,.inr ⟨_,_,rfl,by simpa using hn⟩⟩
  ·refine ⟨some a',cap,by simp,by simpa using hl,hm,(fun h=>by cases h),?_⟩
   simp only [List.length_map,List.length_range]
   by_cases h0 : len=0
   ·left; simp [h0]
   right
   obtain ⟨b,off,spot⟩ := a'
   have hspot : spot=none := by
    have := (each 0 (by omega)).choose_spec.2 0 hp
    simpa [Addr.add] using World.cell?_spot this
   subst hspot
   refine ⟨b,off,rfl,fun i hi=>?_⟩
   have hq : i / ks.length < len := Nat.div_lt_of_lt_mul (by rw [Nat.mul_comm]; exact hi)
   have h8 := (each _ hq).choose_spec.2 (i % ks.length) (Nat.mod_lt _ hp)
   have e1 : i / ks.length * ks.length + i % ks.length=i := by rw [Nat.mul_comm]; exact Nat.div_add_mod _ _
   rw [e1] at h8
   rw [Addr.add_lit] at h8
   rw [h8,eG,List.getElem?_map,List.getElem?_range hq]
   simp only [Option.map_some,Option.elim,dif_pos hq]
  ·intro m hm'
   obtain ⟨i,hi,rfl⟩ := List.mem_map.1 hm'
   have hi := List.mem_range.1 hi
   simp only [dif_pos hi]
   exact (each i hi).choose_spec.1
theorem SL.one {q : IntKind} {c : Int → Nat → Value} (hc : ∀ x,c x 0=.int q x) {v : Value} {l : LM} (h : SL w 1 (kc [q]) v l) : SL w 1 c v (l.map (· 0)) := by
 obtain ⟨p,cp,rfl,h2,h3,h4,h5⟩ := h
 refine ⟨p,cp,by simp,by simpa using h2,h3,h4,?_⟩
 rcases h5 with h5 | ⟨b,o,rfl,h5⟩
 ·exact .inl (by simpa using h5)
 ·refine .inr ⟨b,o,rfl,fun i hi=>?_⟩
  have hi' : i < l.length := by simpa using hi
  rw [h5 i (by simpa using hi)]
  simp only [eG,Nat.div_one,Nat.mod_one,List.getElem?_map,List.getElem?_eq_getElem hi',Option.map_some,Option.elim,hc]
  rfl
theorem SL.ofK {n : Nat} {v : Value} {l : LM} (h : SL w n (kc (List.replicate n .i64)) v l) : SL w n iv v l := by
 have : kc (List.replicate n .i64)=iv := funext fun m=>kc_i64 n m
 rwa [this] at h
theorem wfs_i64 {n : Nat} {m : Nat → Int} (h : wfs (List.replicate n .i64) m) : ∀ i,i < n → inI64 (m i) := fun i hi=>bounds_i64 (h i .i64 (by simp [hi]))
theorem open_list64 {r : Reach} {b0 : Nat} {t e : TypeId} {v : Value} {d : DataW H} {ps : List MemPlace} (n : Nat) (ht : P.underlying t=some (.slice e)) (hk : kinds P 9 e=some (List.replicate n .i64)) (hc : P.cellsOf e=n) (hn : Nat.blt 0 n=true)
  (hval : Value.okWide P w r b0 t v) (hd : DataW.Trod enc P w base sp held t v d ps) :
  ∃ l : LM,SL w n iv v l∧(∀ m ∈ l,∀ i,i < n → inI64 (m i))∧((d=.nil∧l.length=0)∨∃ elems spare,d=.slice elems spare∧elems.length=l.length) := by
 obtain ⟨l,h1,h2,h3⟩ := open_list ht hk (by simpa using hc) (by simpa [Nat.blt_eq] using hn) hval hd
 rw [List.length_replicate] at h1
 refine ⟨l,SL.ofK h1,fun m hm=>wfs_i64 (h2 m hm),?_⟩
 rcases h3 with ⟨h3,rfl⟩ | h3
 ·exact .inl ⟨h3,rfl⟩
 ·exact .inr h3
theorem len_le {ts : List TypeId} {ds : List (DataW H)} (h : (DataW.weightsEach P ts ds).all (· ≤ reachBytes)=true) {j : Nat} {t e : TypeId} {d : DataW H} {n : Nat} (b : Nat) (ht : ts[j]? = some t) (hd : ds[j]? = some d) (hu : P.underlying t=some (.slice e)) (hb : P.bytesOf e=b)
  (hn : (d=.nil∧n=0)∨∃ elems spare,d=.slice elems spare∧elems.length=n) : n * b≤140737488355327 := by
 rcases hn with ⟨_,rfl⟩ | ⟨es,sp,rfl,rfl⟩
 ·omega
 ·have h1 := sized_slice h ht hd hu
  have h2 := reachBytes_lt
  rw [hb,Nat.add_mul] at h1
  have : es.length * b≤es.length * b + sp.length * b := Nat.le_add_right _ _
  omega
end
end Go.E
namespace Go.Proofs.YtljklmlodfbdnaaGreat
open Go Go.E Go.ChangeShapes Go.WideShapes Go.ChangeAt Go.RowKit
theorem st_below {w w' : World} (h : St w [] w') : Below w.heap.size w w' :=
 ⟨h.os,h.tape,h.out,h.size,fun k hk=>h.keep k hk (by simp)⟩
theorem all_stay {H : Type} {enc : TypeId × Value → H} {P : Program} (hl : laidOutB P=true) {W W' : World} (hb : Below W.heap.size W W') :
  ∀ (ts : List TypeId) (vs : List Value) (ds : List (DataW H)) (p : List MemPlace),(∀ t ∈ ts,P.readableRec t=true∧t < P.types.size) → (∀ x ∈ p,x.block < W.heap.size) →
   DataW.TrodAll enc P W 0 (fun _=>true) true ts vs ds p → DataW.TrodAll enc P W' 0 (fun b=>decide (b < W.heap.size)) true ts vs ds p
 | [],vs,ds,p,_,_,h=>by
  obtain ⟨rfl,rfl,rfl⟩ := trodAll_nil h
  exact trodAll_mk0
 | t::ts,vs,ds,p,hts,hp,h=>by
  obtain ⟨v,vs',d,ds',a,b,rfl,rfl,rfl,h1,h2⟩ := trodAll_cons h
  have ht := hts t List.mem_cons_self
  exact trodAll_cons_mk (Below.trod hl ht.1 ht.2 h1 hb fun x hx=>hp x (List.mem_append_left _ hx))
   (all_stay hl hb ts vs' ds' b (fun s hs=>hts s (List.mem_cons_of_mem _ hs)) (fun x hx=>hp x (List.mem_append_right _ hx)) h2)
theorem law_post {H : Type} {enc : TypeId × Value → H} {P : Program} (hl : laidOutB P=true) {f : Func} {s : ChangeSpec} {W W' : World} {args : Array Value} {ds gs : List (DataW H)} {before : List MemPlace} {tb : TypeId}
  (hW : DataW.Whole enc P f.params.toList s.vars false W args.toList ds gs before) (hvars : s.vars=[]) (hfn : s.fn H (ds++gs)={ results := [.lit (.bool true)],args := ds }) (hres : f.resultTypes=#[tb]) (hb : P.underlying tb=some .bool)
  (hpar : f.params.toList.all (fun t=>P.readableRec t && Nat.blt t P.types.size)=true) (hst : St W [] W') : s.post enc P f false true false false W args (.bool true) W' := by
 have hbel := st_below hst
 have hlt : ∀ p ∈ before,p.block < W.heap.size := fun p hp=>by simpa using hW.lt p hp
 have hW1 := hW
 obtain ⟨p,q,hA,hV,e,_,_⟩ := hW
 rw [hvars] at hV
 obtain ⟨_,rfl⟩ := trodVars_none hV
 rw [List.append_nil] at e
 subst e
 refine ⟨ds,gs,before,[],before,[],hW1,?_,?_,?_,hbel.frame _,fun h=>by cases h⟩
 ·rw [hfn,hres]
  exact trodAll_cons_mk (shut_bool hb true) trodAll_mk0
 ·rw [hfn]
  refine all_stay hl hbel _ _ _ _ (fun t ht=>?_) hlt hA
  have := List.all_eq_true.1 hpar t ht
  rw [Bool.and_eq_true] at this
  exact ⟨this.1,Nat.le_of_ble_eq_true this.2⟩
 ·rw [hfn,hvars]; rfl
end Go.Proofs.YtljklmlodfbdnaaGreat
namespace Go.E
open Go
def nz (x : Int) : Bool := decide (x ≠ 0)
def mv (k : Nat → Bool) (m : Nat → Int) : Nat → Value := fun i=>if k i=true then .bool (nz (m i)) else .int .i64 (m i)
def bI (b : Bool) : Int := if b=true then 1 else 0
def kS (l : List Nat) : Nat → Bool := fun i=>l.contains i
def kPA (a s : Nat) (k : Nat → Bool) : Nat → Bool := fun i=>if i < a then false else k ((i - a) % s)
theorem nz_bI (b : Bool) : nz (bI b)=b := by cases b <;> decide
theorem mv_b {k : Nat → Bool} {m : Nat → Int} {i : Nat} (h : k i=true) : mv k m i=.bool (nz (m i)) := by unfold mv; rw [if_pos h]
theorem mv_i {k : Nat → Bool} {m : Nat → Int} {i : Nat} (h : k i=false) : mv k m i=.int .i64 (m i) := by unfold mv; rw [h]; rfl
theorem mv_one {k : Nat → Bool} {m : Nat → Int} {i : Nat} : (mv k m i).oneCell' = true := by unfold mv; split <;> rfl
theorem mv_sub {k k' : Nat → Bool} {m : Nat → Int} {o s : Nat} (h : ∀ i,i < s → k (o + i)=k' i) : ∀ i,i < s → mv k m (o + i)=mv k' (fun i=>m (o + i)) i := fun i hi=>by
 unfold mv; rw [h i hi]
theorem kpaE {a s : Nat} {k : Nat → Bool} {b : Bool} {X j r : Nat} (hX : X=a + (j * s + r)) (hr : r < s) (hb : k r=b) : kPA a s k X=b := by
 subst hX
 unfold kPA
 rw [if_neg (by omega),Nat.add_sub_cancel_left,Nat.mul_comm,Nat.mul_add_mod,Nat.mod_eq_of_lt hr]
 exact hb
theorem updI_at (m : Nat → Int) (o : Nat) (x : Int) : updI m o x o=x := if_pos rfl
theorem updI_ne {m : Nat → Int} {o i : Nat} {x : Int} (h : i ≠ o) : updI m o x i=m i := if_neg h
theorem upd_mvI {k : Nat → Bool} {m : Nat → Int} {o : Nat} {x : Int} (h : k o=false) : upd (mv k m) o (.int .i64 x)=mv k (updI m o x) := by
 funext i
 by_cases hi : i=o
 ·subst hi
  rw [mv_i h,updI_at]
  exact if_pos rfl
 ·show (if i=o then _ else mv k m i)=_
  rw [if_neg hi]
  unfold mv
  rw [updI_ne hi]
theorem upd_mvB {k : Nat → Bool} {m : Nat → Int} {o : Nat} {x : Bool} (h : k o=true) : upd (mv k m) o (.bool x)=mv k (updI m o (bI x)) := by
 funext i
 by_cases hi : i=o
 ·subst hi
  rw [mv_b h,updI_at,nz_bI]
  exact if_pos rfl
 ·show (if i=o then _ else mv k m i)=_
  rw [if_neg hi]
  unfold mv
  rw [updI_ne hi]
section
variable {P : Program} {w0 : World} {env : Env} {H H' : GH} {ty : TypeId} {pos : String} {af : Array Edge} {g : Option (Nat × Bool)} {d : Option Nat} {t : TypeId} {x y : Operand} {b o N s : Nat} {T : TypeId} {m : Nat → Int} {k : Nat → Bool}
theorem o_stMI {v : Int} (hx : ev env x=some (.pointer (some ⟨b,o,none⟩))) (hy : ev env y=some (.int .i64 v)) (ht : TyS P t 1 false) (hm : (b,BK N (mv k m) T) ∈ H) (ho : o < N) (hk : k o=false)
  (hu : Upd H b (BK N (mv k (updI m o v)) T) H') : OT P w0 env H ⟨none,.store t x y,ty,pos,af,g⟩ (Is undef H') :=
 o_st hx hy ht rfl hm ho (by rw [upd_mvI hk]; exact hu)
theorem o_stMB {v : Bool} (hx : ev env x=some (.pointer (some ⟨b,o,none⟩))) (hy : ev env y=some (.bool v)) (ht : TyS P t 1 false) (hm : (b,BK N (mv k m) T) ∈ H) (ho : o < N) (hk : k o=true)
  (hu : Upd H b (BK N (mv k (updI m o (bI v))) T) H') : OT P w0 env H ⟨none,.store t x y,ty,pos,af,g⟩ (Is undef H') :=
 o_st hx hy ht rfl hm ho (by rw [upd_mvB hk]; exact hu)
theorem o_buildM {ps : Array (Nat × Operand)} {zf f : Nat → Value} (hok : FldsOk P t) (hz : ZeroT P t (AG N zf)) (hf : Fill P t N env ps.toList zf f) (hl : ∀ i,i < N → f i=mv k m i) : OT P w0 env H ⟨d,.build t ps,ty,pos,af,g⟩ (Is (AG N (mv k m)) H) := by
 rw [← AG_ext hl]; exact o_build hok hz hf
end
end Go.E
namespace Go.E
open Go
section
variable {P : Program} {w0 : World} {env : List (Nat × Value)} {H : GH} {d : Option Nat} {t ty : TypeId} {pos : String} {af : Array Edge} {g : Option (Nat × Bool)}
theorem o_shrK {yt : TypeId} {x y : Operand} {i j c : Int} {k k' : IntKind} (hx : ev env x=some (.int k i)) (hy : ev env y=some (.int k' j)) (hj : 0≤j∧j.toNat≤k.bits) (hc : (2 : Int) ^ j.toNat=c) :
  OT P w0 env H ⟨d,.binOp .shr t x y yt,ty,pos,af,g⟩ (Is (.int k (i / c)) H) :=
 OT.pure fun a w ha=>by
  subst hc
  have h1 : ¬ j < 0 := by omega
  have h2 : min j.toNat k.bits=j.toNat := by omega
  have hs : (binOp .shr t (.int k i) (.int k' j)).run P w=.ok (.int k (i / 2 ^ j.toNat)) w := by
   show (Op.shift .shr k i k' j).run P w=_
   unfold Op.shift
   rw [if_neg h1]
   simp only [h2,Sem.run_pure]
   rw [Int.fdiv_eq_ediv_of_nonneg i (Int.pow_nonneg (by omega))]
  simp only [execOp,ha.ev hx,ha.ev hy,eqGuard]
  simp [hs]
theorem o_clearC {ag : Bool} {e : TypeId} {v : Value} {l : List Int} {B : GH} {ts : Array TypeId} {by_ : Nat} {args : Array Operand} {i : Nat} (ht : App P t e 1 by_ (.int .i64 0)) (hz : ZeroT P e (.int .i64 0)) (hts : ts=#[t]) (hargs : evL env args.toList=some [cutV v 1 i l.length]) (hJ : OJ e 1 ic B v l) (hi : i≤l.length) :
  OT P w0 env (B++H) ⟨d,.call ⟨.builtin .clear,args,ts⟩,ty,pos,af,g⟩ (fun _ H' => ∃ B',H' = B' ++ H∧Cov w0 B B' ∧ OJ e 1 ic B' v (l.take i++List.replicate (l.length - i) 0)) :=
 OT.val fun a w ha hs=>by
  subst hts
  have e1 : args.map a.eval=#[cutV v 1 i l.length] := Array.toList_inj.1 (by simpa using evL_spec ha _ _ hargs)
  have hexec : (execOp a.eval ⟨d,.call ⟨.builtin .clear,args,#[t]⟩,ty,pos,af,g⟩).run P w=((Builtin.clear_ #[t] ty #[cutV v 1 i l.length]).run P w).andThen fun u w' => .ok (.value u) w' := by
   simp [execOp,resolve,invoke,builtin,e1]
  have h0 : ∀ (u : Option Addr) (cc : Nat),(Builtin.clear_ #[t] ty #[.slice u 0 cc]).run P w=.ok (.tuple #[]) w := by
   intro u cc
   cases u <;> simp [Builtin.clear_,run_underlying ht.u]
  rcases Nat.eq_zero_or_pos (l.length - i) with hm0 | hmpos
  ·have hv : ∃ (u : Option Addr) (cc : Nat),cutV v 1 i l.length=.slice u 0 cc := by
    rcases hJ with ⟨rfl,rfl⟩ | ⟨b,o,cap,N,F,hB,rfl,hlc,hoN,hcm,hF⟩
    ·exact ⟨(if (0 : Nat)=i then none else Option.map (fun (q : Addr)=>q.add (i * 1)) none),0 - i,by simp only [cutV,hm0]⟩
    ·exact ⟨_,_,by simp only [cutV,hm0]; rfl⟩
   obtain ⟨u,cc,hv⟩ := hv
   refine ⟨_,w,B++H,by rw [hexec,hv,h0]; rfl,hs,B,rfl,Cov.refl B,?_⟩
   rw [hm0,List.take_of_length_le (by omega)]
   simpa using hJ
  ·rcases hJ with ⟨rfl,rfl⟩ | ⟨b,o,cap,N,F,hB,rfl,hlc,hoN,hcm,hF⟩
   ·simp at hmpos
   have hcl : ¬ cap=i := by omega
   have ev2 : cutV (.slice (some ⟨b,o,none⟩) l.length cap) 1 i l.length=.slice (some ⟨b,o + i * 1,none⟩) (l.length - i) (cap - i) := by
    simp only [cutV,if_neg hcl,Option.map_some,Addr.add_lit]
   rw [Nat.mul_one] at ev2
   have hbk : w.heap[b]? = some (BK N F e) := hs.own _ _ (List.mem_append_left _ hB)
   have hzl : (Builtin.zeroCells (Value.int .i64 0).cells (l.length - i)).toList.length=(l.length - i) := by
    rw [Array.length_toList,size_zeroCells,ht.z,Nat.mul_one]
   have hget : ∀ q,q < l.length - i → (Builtin.zeroCells (Value.int .i64 0).cells (l.length - i)).toList[q]? = some (.int .i64 0) := by
    intro q hq
    simp [Builtin.zeroCells,Value.cells,hq,Nat.mod_one]
   have hoc : ∀ u ∈ (Builtin.zeroCells (Value.int .i64 0).cells (l.length - i)).toList,u.oneCell' = true := by
    intro u hu
    obtain ⟨q,hq,he⟩ := List.getElem_of_mem hu
    have := hget q (by omega)
    rw [List.getElem?_eq_getElem hq,he] at this
    have e2 := Option.some.inj this
    rw [e2]
    rfl
   have hst := run_storeCells_at P b (o + i) e (Builtin.zeroCells (Value.int .i64 0).cells (l.length - i)).toList 0 (CV N F) w hbk (by rw [hzl]; simp; omega) hoc
   simp only [Nat.add_zero] at hst
   have hr : (Builtin.clear_ #[t] ty #[.slice (some ⟨b,o + i,none⟩) (l.length - i) (cap - i)]).run P w=.ok (.tuple #[]) (w.setRow b ((CV N F).toList.take (o + i)++(Builtin.zeroCells (Value.int .i64 0).cells (l.length - i)).toList++(CV N F).toList.drop (o + i + (Builtin.zeroCells (Value.int .i64 0).cells (l.length - i)).toList.length)).toArray) := by
    obtain ⟨n,hn⟩ : ∃ n,l.length - i=n + 1 := ⟨l.length - i - 1,by omega⟩
    rw [hn] at hst ⊢
    simp only [Builtin.clear_,Sem.run_bind,run_underlying ht.u,Result.andThen_ok,hz.run]
    simp [run_underlying ht.u,hz.run,hst]
   have hsp : ((CV N F).toList.take (o + i)++(Builtin.zeroCells (Value.int .i64 0).cells (l.length - i)).toList++(CV N F).toList.drop (o + i + (Builtin.zeroCells (Value.int .i64 0).cells (l.length - i)).toList.length)).toArray=CV N (updR F (o + i) (l.length - i) fun _=>.int .i64 0) :=
    splice_CV (by rw [hzl]; omega) (fun k hk=>by
     rw [hzl] at hk
     simp only [updR]
     rw [if_pos (by omega),hget k hk]) (fun k _ hh=>by
     rw [hzl] at hh
     simp only [updR]; rw [if_neg (by omega)])
   obtain ⟨B',hB'⟩ := Upd.ex (BK N (updR F (o + i) (l.length - i) fun _=>.int .i64 0) e) hB
   have hlen : (l.take i++List.replicate (l.length - i) (0 : Int)).length=l.length := by simp; omega
   refine ⟨_,_,_,by rw [hexec,ev2,hr]; rfl,hs.setRow (N := N) (F := F) (T := e) (b := b) (f' := updR F (o + i) (l.length - i) fun _=>.int .i64 0) (List.mem_append_left _ hB) hsp hB'.left,B',rfl,Cov.upd hB',?_⟩
   refine .inr ⟨b,o,cap,N,_,hB'.isin,by rw [hlen],by rw [hlen]; exact hlc,hoN,hcm,fun q hq=>?_⟩
   rw [hlen] at hq
   have hq' : q < l.length := by omega
   rw [eG_one (by rw [hlen]; exact hq')]
   simp only [updR]
   by_cases hqi : q < i
   ·rw [if_neg (by omega),hF q (by omega),eG_one hq',List.getElem_append_left (by simp; omega),List.getElem_take]
   ·rw [if_pos (by omega),List.getElem_append_right (by simp; omega),List.getElem_replicate]
    rfl
end
section
variable {P : Program} {n : Nat} {w0 : World} {ops : Array Oper} {KS : List Nat} {env0 env : Env} {dn : List Nat} {H RS : GH} {Q : Exit → Act → World → Prop}
theorem xd_step2a (hok : RegOK n ops=true) (i j : Nat) {o o' : Oper} {d : Nat} (l l' : Env) (ho : ops[i]? = some o) (ho' : ops[j]? = some o') (hd : o.dst=some d) (hd' : o'.dst=none) (hf : front ops dn=[i,j]) (hl : Live env l) (hl' : Live env l')
  (hs : slotsOK ops dn i (l.map (·.1))=true) (hs' : slotsOK ops dn j (l'.map (·.1))=true) (hw : Wt ops l o.guard) (hw' : Wt ops l' o'.guard) {R R' : Value → GH → Prop} (ht : OT P w0 l H o R) (ht' : OT P w0 l' H o' R')
  (k : ∀ v H',R v H' → (∀ x ∈ RS,x ∈ H')∧(∀ k ∈ keys H',k ∈ KS∨w0.heap.size≤k)∧XD P n w0 ops KS env0 (i::dn) ((d,v)::env) H' RS Q) (k' : ∀ v H',R' v H' → (∀ x ∈ RS,x ∈ H')∧(∀ k ∈ keys H',k ∈ KS∨w0.heap.size≤k)∧XD P n w0 ops KS env0 (j::dn) env H' RS Q) : XD P n w0 ops KS env0 dn env H RS Q := by
 intro a0 dl ha0 hdn hnd he hrs
 refine xd_rounds hok (by rw [hdn]; exact hnd) ?_ ?_
 ·intro a w listed hr hinv
  exfalso
  have hi : i ∈ front ops dn := by rw [hf]; simp
  obtain ⟨h1,h2⟩ := List.mem_filter.1 hi
  have := all_listed hok hinv.lsize hr i (List.mem_range.1 h1)
  obtain ⟨p,hp,e⟩ := hinv.inn i this
  simp only [Bool.and_eq_true,Bool.not_eq_true',List.contains_eq_mem,decide_eq_false_iff_not] at h2
  exact h2.1 (by rw [← hdn]; exact List.mem_map.2 ⟨p,hp,e⟩)
 ·intro fuel listed a w q hinv hr hni
  have hj := front_spec hinv.lsize hdn hinv.inn hr hni
  rw [hf] at hj
  simp only [List.mem_cons,List.not_mem_nil,or_false] at hj
  rcases hj with rfl | rfl
  ·exact xd_one hok l ho hl hs hw ht (fun v H' hR=>by rw [hd]; exact k v H' hR) ha0 hdn hnd he hrs hinv hr hni
  ·exact xd_one hok l' ho' hl' hs' hw' ht' (fun v H' hR=>by rw [hd']; exact k' v H' hR) ha0 hdn hnd he hrs hinv hr hni
end
section
variable {P : Program} {n : Nat} {w0 : World} {env : Env} {H : GH} {Q : Exit → Act → World → Prop}
def CutI (n : Nat) (w0 : World) (I : Env → GH → Prop) : Exit → Act → World → Prop := fun ex a w=>ex=.normal∧∃ e H',I e H' ∧ Ag n e a∧St w0 H' w
theorem xw_cutI {c : Code} (I : Env → GH → Prop) (h1 : XW P n w0 env H c (CutI n w0 I)) (h2 : ∀ e H',I e H' → XQ n w0 e H' .normal Q) : XW P n w0 env H c Q :=
 fun a w ha hs=>wp_mono (h1 a w ha hs) fun e a' w' ⟨he,e1,H1,hI,ha',hs'⟩=>by subst he; exact h2 e1 H1 hI a' w' ha' hs'
theorem xq_cutI {I : Env → GH → Prop} {e' : Env} (H' : GH) (hl : Live env e') (hH : ∀ w,St w0 H w → St w0 H' w) (hI : I e' H') : XQ n w0 env H .normal (CutI n w0 I) :=
 fun a w ha hs=>⟨rfl,e',H',hI,ha.live hl,hH w hs⟩
end
end Go.E
namespace Go.E
open Go
section
variable {α : Type _} {a b : α} {xs bs : List α}
theorem mR (h : a ∈ bs) : a ∈ xs++bs := List.mem_append_right xs h
theorem mT (h : a ∈ xs) : a ∈ b::xs := List.Mem.tail _ h
theorem mH : a ∈ a::xs := List.Mem.head _
variable {p : Nat → Prop}
theorem m_zero : ∀ i,i < 0 → p i := fun i h=>absurd h (Nat.not_lt_zero i)
theorem m_step {n : Nat} (h0 : p 0) (h : ∀ i,i < n → p (i + 1)) : ∀ i,i < n + 1 → p i := fun i hi=>match i,hi with | 0,_=>h0 | k + 1,hk=>h k (Nat.lt_of_succ_lt_succ hk)
theorem M2 (h0 : p 0) (h1 : p 1) : ∀ i,i < 2 → p i := m_step h0 (m_step h1 m_zero)
theorem M4 (h0 : p 0) (h1 : p 1) (h2 : p 2) (h3 : p 3) : ∀ i,i < 4 → p i := m_step h0 (m_step h1 (m_step h2 (m_step h3 m_zero)))
theorem M5 (h0 : p 0) (h1 : p 1) (h2 : p 2) (h3 : p 3) (h4 : p 4) : ∀ i,i < 5 → p i := m_step h0 (m_step h1 (m_step h2 (m_step h3 (m_step h4 m_zero))))
theorem M7 (h0 : p 0) (h1 : p 1) (h2 : p 2) (h3 : p 3) (h4 : p 4) (h5 : p 5) (h6 : p 6) : ∀ i,i < 7 → p i := m_step h0 (m_step h1 (m_step h2 (m_step h3 (m_step h4 (m_step h5 (m_step h6 m_zero))))))
theorem M12 (h0 : p 0) (h1 : p 1) (h2 : p 2) (h3 : p 3) (h4 : p 4) (h5 : p 5) (h6 : p 6) (h7 : p 7) (h8 : p 8) (h9 : p 9) (h10 : p 10) (h11 : p 11) : ∀ i,i < 12 → p i := m_step h0 (m_step h1 (m_step h2 (m_step h3 (m_step h4 (m_step h5 (m_step h6 (m_step h7 (m_step h8 (m_step h9 (m_step h10 (m_step h11 m_zero)))))))))))
theorem M13 (h0 : p 0) (h1 : p 1) (h2 : p 2) (h3 : p 3) (h4 : p 4) (h5 : p 5) (h6 : p 6) (h7 : p 7) (h8 : p 8) (h9 : p 9) (h10 : p 10) (h11 : p 11) (h12 : p 12) : ∀ i,i < 13 → p i := m_step h0 (m_step h1 (m_step h2 (m_step h3 (m_step h4 (m_step h5 (m_step h6 (m_step h7 (m_step h8 (m_step h9 (m_step h10 (m_step h11 (m_step h12 m_zero))))))))))))
theorem M28 (h0 : p 0) (h1 : p 1) (h2 : p 2) (h3 : p 3) (h4 : p 4) (h5 : p 5) (h6 : p 6) (h7 : p 7) (h8 : p 8) (h9 : p 9) (h10 : p 10) (h11 : p 11) (h12 : p 12) (h13 : p 13) (h14 : p 14) (h15 : p 15) (h16 : p 16) (h17 : p 17) (h18 : p 18) (h19 : p 19) (h20 : p 20) (h21 : p 21) (h22 : p 22) (h23 : p 23) (h24 : p 24) (h25 : p 25) (h26 : p 26) (h27 : p 27) : ∀ i,i < 28 → p i := m_step h0 (m_step h1 (m_step h2 (m_step h3 (m_step h4 (m_step h5 (m_step h6 (m_step h7 (m_step h8 (m_step h9 (m_step h10 (m_step h11 (m_step h12 (m_step h13 (m_step h14 (m_step h15 (m_step h16 (m_step h17 (m_step h18 (m_step h19 (m_step h20 (m_step h21 (m_step h22 (m_step h23 (m_step h24 (m_step h25 (m_step h26 (m_step h27 m_zero)))))))))))))))))))))))))))
end
end Go.E
namespace Go.E
open Go
def rawc (x : Nat → Value) (i : Nat) : Value := x i
def MonoR {α : Type} (R : GH → α → (Nat → Value) → Prop) : Prop := ∀ A A' x f,(∀ y ∈ A,y ∈ A') → R A x f → R A' x f
def NJ {α : Type} [Inhabited α] (T : TypeId) (s : Nat) (R : GH → α → (Nat → Value) → Prop) (B : GH) (v : Value) (l : List α) : Prop :=
 ∃ (raws : List (Nat → Value)) (B1 A : GH),B.Perm (B1++A)∧OJ T s rawc B1 v raws∧raws.length=l.length∧∀ i,i < l.length → R A (l[i]!) (raws[i]!)
section
variable {α : Type} [Inhabited α] {w0 w : World} {T : TypeId} {s : Nat} {R : GH → α → (Nat → Value) → Prop} {B H : GH} {v : Value} {l : List α}
noncomputable def NJ.raw (h : NJ T s R B v l) : List (Nat → Value) := Classical.choose h
theorem NJ.rawS (h : NJ T s R B v l) : ∃ (B1 A : GH),B.Perm (B1++A)∧OJ T s rawc B1 v h.raw∧h.raw.length=l.length∧∀ i,i < l.length → R A (l[i]!) (h.raw[i]!) := Classical.choose_spec h
theorem NJ.nil : NJ T s R B (.slice none 0 0) ([] : List α) := ⟨[],[],B,List.Perm.refl _,OJ.nil,rfl,fun i h=>by simp at h⟩
theorem NJ.len (h : NJ T s R B v l) : h.raw.length=l.length := let ⟨_,_,_,_,h3,_⟩ := h.rawS; h3
theorem NJ.val (h : NJ T s R B v l) : ∃ p cap,v=.slice p l.length cap := by
 obtain ⟨raws,B1,A,hp,hO,hl,hA⟩ := h
 rw [← hl]; exact hO.val
theorem NJ.oj (h : NJ T s R B v l) : OJ T s rawc B v h.raw := by
 obtain ⟨B1,A,hp,hO,hl,hA⟩ := h.rawS
 exact hO.mono fun x hx=>hp.mem_iff.2 (List.mem_append_left _ hx)
theorem NJ.sl (h : NJ T s R B v l) (hs : St w0 H w) (hB : ∀ x ∈ B,x ∈ H) : SL w s rawc v h.raw := h.oj.sl hs hB
theorem NJ.at (h : NJ T s R B v l) (hm : MonoR R) {i : Nat} (hi : i < l.length) : R B (l[i]!) (h.raw[i]!) := by
 obtain ⟨B1,A,hp,hO,hl,hA⟩ := h.rawS
 exact hm A B _ _ (fun y hy=>hp.mem_iff.2 (List.mem_append_right _ hy)) (hA i hi)
theorem NJ.ix (h : NJ T s R B v l) {i : Int} (hi : 0≤i∧i < (l.length : Int)) : 0≤i∧i < (h.raw.length : Int) := by rw [h.len]; exact hi
theorem NJ.nilOr (h : NJ T s R B v l) : ((isNilV v=some true∧∀ e,sameKind (.slice e) v=true)∧l=[])∨(isNilV v=some false∧∀ e,sameKind (.slice e) v=true) := by
 rcases h.oj.nilOr with ⟨h1,h2⟩ | h1
 ·refine .inl ⟨h1,?_⟩
  have := h.len
  rw [h2] at this
  exact List.length_eq_zero_iff.1 this.symm
 ·exact .inr h1
theorem NJ.one {b N : Nat} {F f : Nat → Value} {S : GH} {x : α} {o : Obj} (ho : o=BK N F T) (hs : 1 * s≤N) (hF : ∀ i,i < 1 * s → F i=eG s rawc [f] i) (hR : R S x f) : NJ T s R ([(b,o)]++S) (.slice (some ⟨b,0,none⟩) 1 1) [x] := by
 subst ho
 refine ⟨[f],[(b,BK N F T)],S,List.Perm.refl _,OJ.lit (List.mem_singleton.2 rfl) rfl hs (by simp [maxLen]) hF,rfl,fun i hi=>?_⟩
 simp only [List.length_singleton] at hi
 obtain rfl : i=0 := by omega
 exact hR
end
def rL {β : Type} (T : TypeId) (s : Nat) (c : β → Nat → Value) (A : GH) (l : List β) (f : Nat → Value) : Prop := OJ T s c A (f 0) l
theorem rL.oj {β : Type} {T : TypeId} {s : Nat} {c : β → Nat → Value} {A : GH} {l : List β} {f : Nat → Value} (h : rL T s c A l f) : OJ T s c A (f 0) l := h
theorem rL.mono {β : Type} {T : TypeId} {s : Nat} {c : β → Nat → Value} : MonoR (rL T s c) := fun _ _ _ _ hs h=>OJ.mono h hs
section
variable {P : Program} {w0 : World} {env : Env} {H : GH}
variable {d : Option Nat} {ty : TypeId} {pos : String} {af : Array Edge} {g : Option (Nat × Bool)} {t : TypeId} {s : Nat}
theorem o_appW {e : TypeId} {by_ : Nat} {z : Value} {B : GH} {v u : Value} {l l' : List (Nat → Value)} {ts : Array TypeId} {args : Array Operand} (ht : App P t e s by_ z) (hts : ts=#[t,t])
  (hargs : evL env args.toList=some [v,u]) (hown : OJ e s rawc B v l) (hsrc : ∀ w,St w0 (B++H) w → SL w s rawc u l') (h1 : ∀ i,i < l'.length * s → (eG s rawc l' i).oneCell' = true) (hby : (l.length + l'.length) * by_≤140737488355328) (hmax : l.length + l'.length≤maxLen) :
  OT P w0 env (B++H) ⟨d,.call ⟨.builtin .append,args,ts⟩,ty,pos,af,g⟩ (fun v' H' => ∃ B',H' = B' ++ H∧Cov w0 B B' ∧ OJ e s rawc B' v' (l++l')) := by
 intro a w ha hs
 obtain ⟨p,cap,hu,_,_,hpn,hsrc0⟩ := hsrc w hs
 subst hu
 have hspos : 0 < s := by simpa [Nat.blt_eq] using ht.pos
 have hsrc2 : ∀ w',St w0 (B++H) w' → SrcAt w' p (l'.length * s) (eG s rawc l') := by
  intro w' hs'
  obtain ⟨p',cap',hu',_,_,_,h⟩ := hsrc w' hs'
  cases hu'
  exact h
 have hj : Oj e s B v l.length (eG s rawc l) := by
  rcases hown with ⟨h1,h2⟩ | h
  ·exact .inl ⟨h1,by rw [h2]; rfl⟩
  ·exact .inr h
 have := o_appj (d := d) (ty := ty) (pos := pos) (af := af) (g := g) (B := B) (H := H) (n := l.length) (m := l'.length) ht hts hargs hj hsrc2 h1 hmax hby a w ha hs
 refine wp_mono2 ?_ (fun _ _ _ h=>h.elim) this
 rintro a' w' ⟨v',H',rfl,hs',B',rfl,hcov,hown'⟩
 refine ⟨v',_,rfl,hs',B',rfl,hcov,?_⟩
 have hx := hown'.ext (eG_app hspos rawc l l')
 rcases hx with ⟨h1,h2⟩ | ⟨b,o,cp,N,F,h1,h2⟩
 ·exact .inl ⟨h1,by rw [← List.length_append] at h2; exact List.length_eq_zero_iff.1 h2⟩
 ·exact .inr ⟨b,o,cp,N,F,h1,by rw [List.length_append]; exact h2⟩
end
section
variable {α : Type} [Inhabited α] {P : Program} {w0 : World} {env : Env}
variable {d : Option Nat} {ty : TypeId} {pos : String} {af : Array Edge} {g : Option (Nat × Bool)} {t : TypeId} {s : Nat} {R : GH → α → (Nat → Value) → Prop}
theorem cov_in {B B1 A B1' S : GH} (hp : B.Perm (B1++A)) (hc : Cov w0 B1 B1') (hS : Cov w0 [] S) : Cov w0 B (B1' ++ (A++S)) := by
 have hk : ∀ k,k ∈ keys B ↔ k ∈ keys B1∨k ∈ keys A := fun k=>by
  have := (hp.map (·.1)).mem_iff (a := k)
  rw [← List.mem_append,← keys_append]
  exact this
 refine ⟨fun k h=>?_,fun k h=>?_⟩
 ·simp only [keys_append,List.mem_append] at h
  rcases h with h | h | h
  ·exact (hc.1 k h).imp (fun h=>(hk k).2 (.inl h)) id
  ·exact .inl ((hk k).2 (.inr h))
  ·exact .inr (hS.fresh k h)
 ·simp only [keys_append,List.mem_append]
  exact ((hk k).1 h).imp (hc.2 k) .inl
theorem o_appN {e : TypeId} {by_ : Nat} {z : Value} {B : GH} {Ss Rs : List GH} {v u : Value} {l : List α} {x : α} {f : Nat → Value} {ts : Array TypeId} {args : Array Operand} (ht : App P t e s by_ z) (hts : ts=#[t,t])
  (hargs : evL env args.toList=some [v,u]) (hN : NJ e s R B v l) (hm : MonoR R) (hR : R (cat Ss) x f) (hS : Cov w0 [] (cat Ss)) (hsrc : ∀ w,St w0 (cat (B::(Ss++Rs))) w → SL w s rawc u [f]) (h1 : ∀ i,i < s → (f i).oneCell' = true) (hby : (l.length + 1) * by_≤140737488355328) (hmax : l.length + 1≤maxLen) :
  OT P w0 env (cat (B::(Ss++Rs))) ⟨d,.call ⟨.builtin .append,args,ts⟩,ty,pos,af,g⟩ (fun v' H' => ∃ B',H' = cat (B' :: Rs)∧Cov w0 B B' ∧ NJ e s R B' v' (l++[x])∧∀ y ∈ cat Ss,y ∈ B') := by
 obtain ⟨raws,B1,A,hp,hO,hl,hA⟩ := hN
 have e1 : ∀ w,St w0 (cat (B::(Ss++Rs))) w ↔ St w0 (B1++(A++(cat Ss++cat Rs))) w := by
  intro w
  have hperm : (cat (B::(Ss++Rs))).Perm (B1++(A++(cat Ss++cat Rs))) := by
   show (B++cat (Ss++Rs)).Perm _
   rw [cat_append,← List.append_assoc B1 A]
   exact List.Perm.append_right _ hp
  exact ⟨fun h=>h.perm hperm,fun h=>h.perm hperm.symm⟩
 have hspos : 0 < s := by simpa [Nat.blt_eq] using ht.pos
 intro a w ha hs
 have h1' : ∀ i,i < [f].length * s → (eG s rawc [f] i).oneCell' = true := by
  intro i hi
  simp only [List.length_singleton,Nat.one_mul] at hi
  have : i / s=0 := Nat.div_eq_of_lt hi
  simp only [eG,this,List.getElem?_cons_zero,Option.elim_some,rawc,Nat.mod_eq_of_lt hi]
  exact h1 i hi
 have := o_appW (d := d) (ty := ty) (pos := pos) (af := af) (g := g) (H := A++(cat Ss++cat Rs)) (l := raws) (l' := [f]) ht hts hargs hO (fun w hw=>hsrc w ((e1 w).2 hw)) h1' (by rw [hl]; exact hby) (by rw [hl]; exact hmax) a w ha ((e1 w).1 hs)
 refine wp_mono2 ?_ (fun _ _ _ h=>h.elim) this
 rintro a' w' ⟨v',H',rfl,hs',B1',rfl,hcov,hO'⟩
 refine ⟨v',cat ((B1' ++ (A++cat Ss))::Rs),rfl,?_,_,rfl,cov_in hp hcov hS,⟨raws++[f],B1',A++cat Ss,List.Perm.refl _,hO',by simp [hl],fun i hi=>?_⟩,fun y hy=>by simp [hy]⟩
 ·show St w0 ((B1' ++ (A++cat Ss))++cat Rs) w'
  simpa only [List.append_assoc] using hs'
 ·by_cases hlt : i < l.length
  ·have e2 : (l++[x])[i]! = l[i]! := by simp [List.getElem?_append_left hlt]
   have e3 : (raws++[f])[i]! = raws[i]! := by simp [List.getElem?_append_left (show i < raws.length by omega)]
   rw [e2,e3]
   exact hm A _ _ _ (fun y hy=>List.mem_append_left _ hy) (hA i hlt)
  ·simp only [List.length_append,List.length_singleton] at hi
   obtain rfl : i=l.length := by omega
   have e2 : (l++[x])[l.length]! = x := by simp
   have e3 : (raws++[f])[l.length]! = f := by rw [← hl]; simp
   rw [e2,e3]
   exact hm _ _ _ _ (fun y hy=>List.mem_append_right _ hy) hR
end
end Go.E
namespace Go.E
open Go Go.Proofs Go.Shelf Go.RowKit
def skeys {α : Type} (d : List (Int × α)) : List Int := (d.map (·.1)).mergeSort leI
def skeysP {α : Type} (d : List (Int × α)) : Prop := (∀ p ∈ d,inI64 p.1)∧d.length≤1000000000000
def anyR : Value → Option (DataW Unit × List MemPlace) := fun _=>some (.nil,[])
theorem wf_i64 {x : Int} (h : inI64 x) : (Lit.int .i64 x).wf=true := by
 have e : (Lit.int .i64 x).wf=(decide (IntKind.i64.min≤x) && decide (x≤IntKind.i64.max)) := rfl
 have e1 : IntKind.i64.min=-9223372036854775808 := by decide
 have e2 : IntKind.i64.max=9223372036854775807 := by decide
 rw [e,e1,e2,decide_eq_true h.1,decide_eq_true h.2]
 rfl
section
variable {P : Program} {ρ ρm : Ren} {α : Type} {cv : α → Value}
theorem owns_of_MO {d : List (Int × α)} {o : Obj} {b : Nat} {k : TypeId} {w : World} (hk : P.underlying k=some (.int .i64)) (hM : MO kI cv ieq d o) (hb : w.heap[b]? = some o) (hP : skeysP d) :
  ∃ D : DataW Unit,w.ownsMap P k anyR b d.length D∧(intKeys D).Perm (d.map (·.1))∧Maps.size D=d.length := by
 obtain ⟨es,clock,rfl,he,hborn,hnd,hpw⟩ := hM
 have hlen : es.size=d.length := by
  have := congrArg List.length he
  simpa using this
 have hkeys : es.toList.map (·.key)=d.map (fun p=>kI p.1) := by
  have := congrArg (List.map Prod.fst) he
  simpa [List.map_map,Function.comp_def] using this
 have hrd : ∀ x ∈ es.toList,∃ n : Int,x.key=.int .i64 n∧inI64 n := by
  intro x hx
  have : x.key ∈ es.toList.map (·.key) := List.mem_map.2 ⟨x,hx,rfl⟩
  rw [hkeys] at this
  obtain ⟨p,hp,e⟩ := List.mem_map.1 this
  exact ⟨p.1,e.symm,hP.1 p hp⟩
 have hrg : ∀ x ∈ es.toList,∀ n : Int,x.key=.int .i64 n → WideElems.rd P k anyR x=some (.int .i64 n,.nil) := by
  intro x hx n hn
  obtain ⟨m,hm,hmi⟩ := hrd x hx
  rw [hm] at hn
  cases hn
  unfold WideElems.rd
  rw [hm,Maps.keyOf_int_mk hk (wf_i64 hmi)]
  rfl
 have hF : WideElems.Fit P k anyR es clock := by
  refine ⟨by rw [hlen]; have := hP.2; unfold maxLen; omega,⟨hborn,hnd,?_⟩,fun x hx=>?_⟩
  ·rw [hkeys]
   refine List.pairwise_map.2 (hpw.imp fun {p q} h e=>?_)
   have : p.1=q.1 := by simpa [kI] using e
   simp [ieq,this] at h
  ·obtain ⟨n,hn,_⟩ := hrd x hx
   exact ⟨_,hrg x hx n hn⟩
 refine ⟨_,⟨es,clock,hb,hF,by omega,rfl⟩,?_,?_⟩
 ·show (List.map (fun p : Lit × DataW Unit=>Go.intOf p.1) _).Perm _
  refine ((WideShapes.sorted_perm _).map _).trans ?_
  rw [List.map_map]
  have : es.toList.map ((fun p : Lit × DataW Unit=>Go.intOf p.1) ∘ WideElems.rg P k anyR)=es.toList.map (fun x=>match x.key with | .int _ n=>n | _=>0) := by
   refine List.map_congr_left fun x hx=>?_
   obtain ⟨n,hn,_⟩ := hrd x hx
   simp only [Function.comp_apply]
   rw [WideElems.rg_of (hrg x hx n hn),hn]
   rfl
  rw [this]
  have h2 : es.toList.map (fun x=>match x.key with | .int _ n=>n | _=>0)=(es.toList.map (·.key)).map (fun v=>match v with | .int _ n=>n | _=>0) := by
   rw [List.map_map]; rfl
  rw [h2,hkeys,List.map_map]
  exact List.Perm.refl _
 ·show List.length _=_
  rw [(WideShapes.sorted_perm _).length_eq]
  simp [hlen]
theorem con_of_row {f : FuncId} {args : Array Value} {w : World} {T : TypeId} {l : List Int} (h : Calls P f args w fun e w' => ∃ (v : Value) (ss : List Int),e=.returned v∧ss.mergeSort leI=l∧ss.length=l.length ∧
   w'.ownsRow w.heap.size T 1 v ss.length (l.map encZ)∧Below w.heap.size w w') :
  Con P f args w (fun v F=>∃ u C,v=u∧F=C∧OJ T 1 ic C u l∧Cov w [] C) := by
 refine Calls.mono h ?_
 rintro e w' ⟨v,ss,rfl,hs,hl,hrow,hb⟩
 rcases hrow.2 with ⟨rfl,hz⟩ | ⟨g,cap,cur,rfl,hbase,hg,h1,h2,h3,h4⟩
 ·refine ⟨_,[],rfl,⟨hb.os,hb.tape,hb.output,hb.size,fun _ _ h=>absurd h (by simp),List.nodup_nil,fun k hk _=>hb.block k hk⟩,_,[],rfl,rfl,?_,Cov.refl _⟩
  rw [List.eq_nil_of_length_eq_zero (hl.symm.trans hz)]
  exact OJ.nil
 ·have hcur : cur=CV cur.size (fun i=>cur.getD i undef) := CV_of cur
  have hBK : w'.heap[g]? = some (BK cur.size (fun i=>cur.getD i undef) T) := by
   unfold BK
   rw [← hcur]; exact hg
  refine ⟨_,[(g,BK cur.size (fun i=>cur.getD i undef) T)],rfl,⟨hb.os,hb.tape,hb.output,hb.size,?_,by simp,fun k hk _=>hb.block k hk⟩,_,_,rfl,rfl,?_,Cov.of_fresh ?_⟩
  ·intro b o hm
   cases List.mem_singleton.1 hm
   exact hBK
  ·refine .inr ⟨g,0,cap,_,_,List.mem_singleton.2 rfl,by rw [hl],by omega,by omega,h2,fun i hi=>?_⟩
   rw [Nat.mul_one] at hi
   have e1 : (cur.toList.take (ss.length * 1))[i]? = (l.map encZ)[i]? := by rw [h4]
   rw [Nat.mul_one,List.getElem?_take_of_lt (by omega),List.getElem?_map,List.getElem?_eq_getElem hi] at e1
   have e2 : eG 1 ic l i=.int .i64 l[i] := eG_one hi
   rw [e2,Nat.zero_add,Array.getD_eq_getD_getElem?,← Array.getElem?_toList,e1]
   rfl
  ·intro k hk
   simp only [keys_cons,keys_nil,List.mem_singleton] at hk
   omega
theorem con_sortedKeys (LK : SlLaysZI.n10 P ρ) (LS : SlLaysZI.n6 P ρ) (LM : SlLaysM.n5 P ρm) (hf : ρm.f 5=ρ.f 9) (e9 : Enters P (ρ.f 9)) (e10 : Enters P (ρ.f 10))
  {w : World} {Bm b : Nat} {T : TypeId} {o : Obj} {d : List (Int × α)} (hm : w.heap[Bm]? = some (BK 1 (fun _=>.map (some b)) T)) (hb : w.heap[b]? = some o) (hM : MO kI cv ieq d o) (hP : skeysP d) :
  Con P (ρ.f 6) #[.func (.func (ρ.f 10)) #[] #[.pointer (some ⟨Bm,0,none⟩)]] w (fun v F=>∃ u C,v=u∧F=C∧OJ (ρ.t 26) 1 ic C u (skeys d)∧Cov w [] C) := by
 obtain ⟨D,hown,hperm,hsz⟩ := owns_of_MO (cv := cv) LK.t26 hM hb hP
 have hBm : Bm < w.heap.size := (Array.getElem?_eq_some_iff.1 hm).1
 have hcell : w.cell? ⟨Bm,0,none⟩=some (.map (some b)) := cell_BK hm (by omega)
 have hseq : SeqGives Fence.wide 2 P (ρ.f 10) #[.pointer (some ⟨Bm,0,none⟩)] encZ (fun ss=>ss.Perm (intKeys D)) (Maps.size D) w :=
  AnyZI.keys_gives LK Fence.wide 2 trivial rfl (by omega) Bm b _ D w hBm hcell hown
 have hsort : ∀ m,AnyZI.SortsIn P ρ Fence.wide m := fun m =>
  ⟨fun blk off cap ss W hH hblk hsz=>callsIn_wide.2 (hf ▸ AnyM.slices_Sort_int LM blk off cap ss W hH hblk hsz),
   fun p cap W=>callsIn_wide.2 (hf ▸ AnyM.slices_Sort_int_none LM p cap W)⟩
 have hd := hP.2
 have cS := AnyZI.sorted_in LS Fence.wide 5 trivial trivial trivial trivial rfl (by omega) (hsort _) e9 (ρ.f 10) #[.pointer (some ⟨Bm,0,none⟩)] trivial e10 _ (Maps.size D) (by rw [hsz]; unfold maxLen; omega) (by rw [hsz]; omega) w hseq
 refine con_of_row (Calls.mono (callsIn_wide.1 cS) ?_)
 rintro e w' ⟨v,ss,rfl,hS,hrow,hnil,hbl⟩
 have hp : ss.Perm (d.map (·.1)) := hS.trans hperm
 have hms : ss.mergeSort leI=skeys d := mergeSort_of_perm_i hp
 refine ⟨v,ss,rfl,hms,?_,?_,hbl⟩
 ·rw [← hms,List.length_mergeSort]
 ·rw [← hms]; exact hrow
theorem xw_scope {P : Program} {n : Nat} {w0 : World} {env : Env} {H : GH} {c : Code} {Q : Exit → Act → World → Prop} (h : XW P n w0 env H c (Exit.noGoto Q)) : XW P n w0 env H (.scope c) Q := fun a w ha hs=>wp_scope_straight (h a w ha hs)
theorem xq_scope_r {n : Nat} {w0 : World} {env : Env} {H : GH} {Q : Exit → Act → World → Prop} (h : XQ n w0 env H .ret Q) : XQ n w0 env H .ret (Exit.noGoto Q) := h
theorem Con.cat1 {f : FuncId} {args : Array Value} {w : World} {V : Value → Value} {Jc : Value → GH → Prop} (h : Con P f args w (fun v F=>∃ (u : Value) (C : GH),v=V u∧F=(C++[])∧Jc u C∧Cov w [] C)) :
  Con P f args w (CatG fun v Ls=>Cov w (cat []) (cat Ls)∧∃ (u : Value) (C : GH),v=V u∧Ls=[C]∧Jc u C∧Cov w [] C) :=
 h.mono fun v F ⟨u,C,h1,h2,h3,h4⟩=>⟨[C],h2,by simpa [cat] using h4,u,C,h1,rfl,h3,h4⟩
theorem con_sortedKeysJ (LK : SlLaysZI.n10 P ρ) (LS : SlLaysZI.n6 P ρ) (LM : SlLaysM.n5 P ρm) (hf : ρm.f 5=ρ.f 9) (e9 : Enters P (ρ.f 9)) (e10 : Enters P (ρ.f 10))
  {w : World} {Bm : Nat} {T : TypeId} {v : Value} {B : GH} {d : List (Int × α)} (hm : w.heap[Bm]? = some (BK 1 (fun _=>v) T)) (hJ : MJ kI cv ieq B v d) (hB : ∀ x ∈ B,w.heap[x.1]? = some x.2) (hP : skeysP d) :
  Con P (ρ.f 6) #[.func (.func (ρ.f 10)) #[] #[.pointer (some ⟨Bm,0,none⟩)]] w (fun v F=>∃ (u : Value) (C : GH),v=u∧F=(C++[])∧OJ (ρ.t 26) 1 ic C u (skeys d)∧Cov w [] C) := by
 obtain ⟨b,o,rfl,rfl,hM⟩ := hJ
 exact (con_sortedKeys LK LS LM hf e9 e10 hm (hB (b,o) (List.mem_singleton.2 rfl)) hM hP).mono fun v F ⟨u,C,h1,h2,h3⟩=>⟨u,C,h1,by simp [h2],h3⟩
end
end Go.E
namespace Go.E
open Go
def PW {α β : Type} (Q : α → β → Prop) : List (Int × α) → List (Int × β) → Prop
 | [],[]=>True
 | p::d,q::r=>p.1=q.1∧Q p.2 q.2∧PW Q d r
 | _,_=>False
section
variable {α β : Type} {Q Q' : α → β → Prop}
theorem PW.imp (h : ∀ a b,Q a b → Q' a b) : ∀ {d : List (Int × α)} {r : List (Int × β)},PW Q d r → PW Q' d r
 | [],[],_=>trivial
 | _::_,_::_,⟨h1,h2,h3⟩=>⟨h1,h _ _ h2,PW.imp h h3⟩
 | [],_::_,h=>h.elim
 | _::_,[],h=>h.elim
theorem PW.keys : ∀ {d : List (Int × α)} {r : List (Int × β)},PW Q d r → r.map (·.1)=d.map (·.1)
 | [],[],_=>rfl
 | _::_,_::_,⟨h1,h2,h3⟩=>by rw [List.map_cons,List.map_cons,PW.keys h3,h1]
 | [],_::_,h=>h.elim
 | _::_,[],h=>h.elim
theorem PW.get {z : α} {z' : β} (hz : Q z z') (k : Int) : ∀ {d : List (Int × α)} {r : List (Int × β)},PW Q d r → Q (mget ieq d k z) (mget ieq r k z')
 | [],[],_=>hz
 | p::d,q::r,⟨h1,h2,h3⟩=>by
  have := PW.get hz k h3
  unfold mget at this ⊢
  unfold mfind
  rw [← h1]
  by_cases h : ieq k p.1=true
  ·rw [if_pos h,if_pos h]; exact h2
  ·rw [if_neg h,if_neg h]; exact this
 | [],_::_,h=>h.elim
 | _::_,[],h=>h.elim
theorem PW.has (k : Int) : ∀ {d : List (Int × α)} {r : List (Int × β)},PW Q d r → mhas ieq r k=mhas ieq d k
 | [],[],_=>rfl
 | p::d,q::r,⟨h1,h2,h3⟩=>by
  have := PW.has k h3
  unfold mhas at this ⊢
  unfold mfind
  rw [← h1]
  by_cases h : ieq k p.1=true
  ·rw [if_pos h,if_pos h]; rfl
  ·rw [if_neg h,if_neg h]; exact this
 | [],_::_,h=>h.elim
 | _::_,[],h=>h.elim
theorem PW.set {a : α} {b : β} (hab : Q a b) (k : Int) : ∀ {d : List (Int × α)} {r : List (Int × β)},PW Q d r → PW Q (mset ieq d k a) (mset ieq r k b)
 | [],[],_=>⟨rfl,hab,trivial⟩
 | p::d,q::r,⟨h1,h2,h3⟩=>by
  unfold mset
  rw [← h1]
  by_cases h : ieq k p.1=true
  ·rw [if_pos h,if_pos h]; exact ⟨rfl,hab,h3⟩
  ·rw [if_neg h,if_neg h]; exact ⟨h1,h2,PW.set hab k h3⟩
 | [],_::_,h=>h.elim
 | _::_,[],h=>h.elim
end
def NM {α : Type} (n : Nat) (R : GH → α → (Nat → Value) → Prop) (B : GH) (v : Value) (d : List (Int × α)) : Prop :=
 ∃ (raws : List (Int × (Nat → Value))) (B1 A : GH),B.Perm (B1++A)∧MJ kI (AG n) ieq B1 v raws∧PW (R A) d raws
section
variable {α : Type} {w0 w : World} {n : Nat} {R : GH → α → (Nat → Value) → Prop} {B H : GH} {v : Value} {d : List (Int × α)}
noncomputable def NM.raw (h : NM n R B v d) : List (Int × (Nat → Value)) := Classical.choose h
theorem NM.rawS (h : NM n R B v d) : ∃ (B1 A : GH),B.Perm (B1++A)∧MJ kI (AG n) ieq B1 v h.raw∧PW (R A) d h.raw := Classical.choose_spec h
theorem NM.nil (h : MJ kI (AG n) ieq B v []) : NM n R B v [] := ⟨[],B,[],by simp,h,trivial⟩
theorem NM.val (h : NM n R B v d) : ∃ b,v=.map (some b) := let ⟨_,_,_,h,_⟩ := h.rawS; h.val
theorem NM.one (h : NM n R B v d) : v.oneCell' = true := let ⟨_,_,_,h,_⟩ := h.rawS; h.one
noncomputable def NM.get (h : NM n R B v d) (k : Int) (zf : Nat → Value) : Nat → Value := mget ieq h.raw k zf
theorem NM.at (h : NM n R B v d) (hm : MonoR R) (k : Int) {z : α} {zf : Nat → Value} (hz : R [] z zf) : R B (mget ieq d k z) (h.get k zf) := by
 obtain ⟨B1,A,hp,hM,hA⟩ := h.rawS
 have := PW.get (Q := R A) (hm [] A _ _ (fun y hy=>by simp at hy) hz) k hA
 exact hm A B _ _ (fun y hy=>hp.mem_iff.2 (List.mem_append_right _ hy)) this
theorem NM.keys (h : NM n R B v d) : ∃ (B1 : GH),(∀ x ∈ B1,x ∈ B)∧MJ kI (AG n) ieq B1 v h.raw∧skeys h.raw=skeys d∧(skeysP d → skeysP h.raw) := by
 obtain ⟨B1,A,hp,hM,hA⟩ := h.rawS
 have hk := hA.keys
 refine ⟨B1,fun x hx=>hp.mem_iff.2 (List.mem_append_left _ hx),hM,by unfold skeys; rw [hk],fun ⟨h1,h2⟩=>⟨fun p hp' => ?_,?_⟩⟩
 ·have : p.1 ∈ d.map (·.1) := by rw [← hk]; exact List.mem_map_of_mem hp'
  obtain ⟨q,hq,e⟩ := List.mem_map.1 this
  rw [← e]; exact h1 q hq
 ·have := congrArg List.length hk
  simp only [List.length_map] at this
  omega
end
section
variable {α : Type} {P : Program} {w0 : World} {env : Env} {H : GH}
variable {d : Option Nat} {ty : TypeId} {pos : String} {af : Array Edge} {g : Option (Nat × Bool)} {t kt et : TypeId} {x y u : Operand} {n : Nat} {R : GH → α → (Nat → Value) → Prop} {B : GH} {v : Value} {m : List (Int × α)} {k : Int}
theorem o_lkN {zf f : Nat → Value} (hk : KeyT P kt kI ieq) (hu : P.underlying t=some (.map kt et)) (hz : ZeroT P et (AG n zf)) (hx : ev env x=some v) (hy : ev env y=some (kI k)) (hN : NM n R B v m) (hB : ∀ q ∈ B,q ∈ H) (hf : ∀ i,i < n → hN.get k zf i=f i) :
  OT P w0 env H ⟨d,.lookup t x y false,ty,pos,af,g⟩ (Is (AG n f) H) := by
 obtain ⟨B1,A,hp,hM,hA⟩ := hN.rawS
 rw [← AG_ext hf]
 exact o_lk (z := zf) hk hu hz hx hy hM fun q hq=>hB q (hp.mem_iff.2 (List.mem_append_left _ hq))
theorem o_lkokN {zf f : Nat → Value} {b : Bool} (hk : KeyT P kt kI ieq) (hu : P.underlying t=some (.map kt et)) (hz : ZeroT P et (AG n zf)) (hx : ev env x=some v) (hy : ev env y=some (kI k)) (hN : NM n R B v m) (hB : ∀ q ∈ B,q ∈ H) (hf : ∀ i,i < n → hN.get k zf i=f i) (hb : mhas ieq m k=b) :
  OT P w0 env H ⟨d,.lookup t x y true,ty,pos,af,g⟩ (Is (.tuple #[AG n f,.bool b]) H) := by
 subst hb
 obtain ⟨B1,A,hp,hM,hA⟩ := hN.rawS
 rw [← AG_ext hf,← hA.has k]
 exact o_lkok (z := zf) hk hu hz hx hy hM fun q hq=>hB q (hp.mem_iff.2 (List.mem_append_left _ hq))
theorem cov_in2 {B B1 A B1' S : GH} (hp : B.Perm (B1++A)) (hc : Cov w0 B1 B1') : Cov w0 (B++S) (B1' ++ (A++S)) := by
 have hk : ∀ k,k ∈ keys B ↔ k ∈ keys B1∨k ∈ keys A := fun k=>by
  have := (hp.map (·.1)).mem_iff (a := k)
  rw [← List.mem_append,← keys_append]
  exact this
 refine ⟨fun k h=>?_,fun k h=>?_⟩
 ·simp only [keys_append,List.mem_append] at h ⊢
  rcases h with h | h | h
  ·exact (hc.1 k h).imp (fun h=>.inl ((hk k).2 (.inl h))) id
  ·exact .inl (.inl ((hk k).2 (.inr h)))
  ·exact .inl (.inr h)
 ·simp only [keys_append,List.mem_append] at h ⊢
  rcases h with h | h
  ·exact ((hk k).1 h).imp (hc.2 k) .inl
  ·exact .inr (.inr h)
theorem cov_drop {B S B' : GH} (h : Cov w0 (B++S) B') (hS : Cov w0 [] S) : Cov w0 B B' :=
 ⟨fun k hk=>(h.1 k hk).elim (fun h=>by
  rw [keys_append,List.mem_append] at h
  exact h.imp id (hS.fresh k)) .inr,fun k hk=>h.2 k (by rw [keys_append]; exact List.mem_append_left _ hk)⟩
def appAll (Ss : List GH) (R : GH) : GH := Ss.foldr (fun S R=>S++R) R
theorem appAll_cat (R : GH) : ∀ (Ss : List GH),appAll Ss R=cat Ss++R
 | []=>rfl
 | S::Ss=>by
  show S++appAll Ss R=(S++cat Ss)++R
  rw [appAll_cat R Ss,List.append_assoc]
theorem Cov.move {A A' R R' : GH} (Ss : List GH) (h : Cov w0 (A++cat Ss) A') (k : Cov w0 R R') : Cov w0 (A++appAll Ss R) (A' ++ R') := by
 rw [appAll_cat,← List.append_assoc]
 exact h.app k
theorem Cov.permJ (σ : List Nat) (L : List GH) {B : GH} (h : Cov w0 (cat (σ.map fun i=>L.getD i [])) B) (hp : List.isPerm σ (List.range L.length)=true := by kernel_rfl) : Cov w0 (cat L) B := by
 have h1 := (List.isPerm_iff.1 hp).map (fun i=>L.getD i [])
 rw [map_getD_range] at h1
 have hk : ∀ k,k ∈ keys (cat L) ↔ k ∈ keys (cat (σ.map fun i=>L.getD i [])) := fun k=>((cat_perm h1).symm.map (·.1)).mem_iff
 exact ⟨fun k hh=>(h.1 k hh).imp (hk k).2 id,fun k hh=>h.2 k ((hk k).1 hh)⟩
theorem o_msetN {Ss Rs : List GH} {e : α} {f : Nat → Value} (hk : KeyT P kt kI ieq) (hu : P.underlying t=some (.map kt et)) (hx : ev env x=some v) (hy : ev env y=some (kI k)) (hz : ev env u=some (AG n f)) (hN : NM n R B v m) (hm : MonoR R) (hR : R (cat Ss) e f) :
  OT P w0 env (cat (B::(Ss++Rs))) ⟨d,.mapUpdate t x y u,ty,pos,af,g⟩ (fun _ H' => ∃ B',H' = cat (B' :: Rs)∧Cov w0 (B++cat Ss) B' ∧ NM n R B' v (mset ieq m k e)∧∀ q ∈ cat Ss,q ∈ B') := by
 obtain ⟨raws,B1,A,hp,hM,hA⟩ := hN
 have e1 : ∀ w,St w0 (cat (B::(Ss++Rs))) w → St w0 (B1++(A++(cat Ss++cat Rs))) w := by
  intro w h
  have hperm : (cat (B::(Ss++Rs))).Perm (B1++(A++(cat Ss++cat Rs))) := by
   show (B++cat (Ss++Rs)).Perm _
   rw [cat_append,← List.append_assoc B1 A]
   exact List.Perm.append_right _ hp
  exact h.perm hperm
 intro a w ha hs
 have := o_mset (d := d) (ty := ty) (pos := pos) (af := af) (g := g) (R := A++(cat Ss++cat Rs)) (e := f) hk hu hx hy hz hM a w ha (e1 w hs)
 refine wp_mono2 ?_ (fun _ _ _ h=>h.elim) this
 rintro a' w' ⟨v',H',rfl,hs',B1',rfl,hcov,hM'⟩
 refine ⟨v',cat ((B1' ++ (A++cat Ss))::Rs),rfl,?_,_,rfl,cov_in2 hp hcov,⟨mset ieq raws k f,B1',A++cat Ss,List.Perm.refl _,hM',?_⟩,fun y hy=>by simp [hy]⟩
 ·show St w0 ((B1' ++ (A++cat Ss))++cat Rs) w'
  simpa only [List.append_assoc] using hs'
 ·exact PW.set (hm _ _ _ _ (fun y hy=>List.mem_append_right _ hy) hR) k (hA.imp fun a b h=>hm A _ _ _ (fun y hy=>List.mem_append_left _ hy) h)
end
end Go.E
namespace Go.Proofs.YtljklmlodfbdnaaGreat
open Go Go.E
abbrev kO (c : NI) (p : Nat) (x l : Int) (v y : Value) := BK 12 (cl [.int .i64 (c 0),.bool (nz (c 1)),.int .i64 (c 2),.int .i64 (c 3),.int .i64 (c 4),.int .i64 (c 5),.int .i64 (c 6),.pointer (some ⟨p,0,none⟩),.int .i64 x,.int .i64 l,v,y]) 84
theorem ap173 : App Tryz.prog 173 42 2 16 (AG 2 (iv (fun _=>0))) := ⟨Tryz.underlying173,by kernel_rfl,by kernel_rfl,by kernel_rfl⟩
theorem ap35 : App Tryz.prog 35 45 28 224 (AG 28 (iv (fun _=>0))) := ⟨Tryz.underlying35,by kernel_rfl,by kernel_rfl,by kernel_rfl⟩
theorem ap53 : App Tryz.prog 53 62 13 168 (AG 13 (fun i=>([.int .i64 0,.int .i64 0,.int .i64 0,.int .i64 0,.bool false,.int .i64 0,.int .i64 0,.int .i64 0,.int .i64 0,.slice none 0 0,.slice none 0 0,.slice none 0 0,.slice none 0 0] : List Value).getD i undef)) := ⟨Tryz.underlying53,by kernel_rfl,by kernel_rfl,by kernel_rfl⟩
theorem ap54 : App Tryz.prog 54 65 7 56 (AG 7 (iv (fun _=>0))) := ⟨Tryz.underlying54,by kernel_rfl,by kernel_rfl,by kernel_rfl⟩
theorem ap59 : App Tryz.prog 59 3 1 8 (.int .i64 0) := ⟨Tryz.underlying59,by kernel_rfl,by kernel_rfl,by kernel_rfl⟩
theorem ap60 : App Tryz.prog 60 104 5 40 (AG 5 (iv (fun _=>0))) := ⟨Tryz.underlying60,by kernel_rfl,by kernel_rfl,by kernel_rfl⟩
theorem ea128 : ElmA Tryz.prog 128 9 127 3 true := ⟨Tryz.underlying128,by kernel_rfl,by kernel_rfl⟩
theorem ea43 : ElmA Tryz.prog 43 8 42 2 true := ⟨Tryz.underlying43,by kernel_rfl,by kernel_rfl⟩
theorem el173 : Elm Tryz.prog 173 42 2 true := ⟨Tryz.underlying173,by kernel_rfl,by kernel_rfl⟩
theorem el24 : Elm Tryz.prog 24 47 33 true := ⟨Tryz.underlying24,by kernel_rfl,by kernel_rfl⟩
theorem el35 : Elm Tryz.prog 35 45 28 true := ⟨Tryz.underlying35,by kernel_rfl,by kernel_rfl⟩
theorem el53 : Elm Tryz.prog 53 62 13 true := ⟨Tryz.underlying53,by kernel_rfl,by kernel_rfl⟩
theorem el54 : Elm Tryz.prog 54 65 7 true := ⟨Tryz.underlying54,by kernel_rfl,by kernel_rfl⟩
theorem el59 : Elm Tryz.prog 59 3 1 false := ⟨Tryz.underlying59,by kernel_rfl,by kernel_rfl⟩
theorem el60 : Elm Tryz.prog 60 104 5 true := ⟨Tryz.underlying60,by kernel_rfl,by kernel_rfl⟩
theorem eq39 : Flat Tryz.prog 39 2 := ⟨by kernel_rfl,by kernel_rfl⟩
theorem eq42 : Flat Tryz.prog 42 2 := ⟨by kernel_rfl,by kernel_rfl⟩
theorem eq45 : Flat Tryz.prog 45 28 := ⟨by kernel_rfl,by kernel_rfl⟩
theorem fk104 : FldsOk Tryz.prog 104 := ⟨_,Tryz.underlying104,by kernel_rfl⟩
theorem fk130 : FldsOk Tryz.prog 130 := ⟨_,Tryz.underlying130,by kernel_rfl⟩
theorem fk23 : FldsOk Tryz.prog 23 := ⟨_,Tryz.underlying23,by kernel_rfl⟩
theorem fk39 : FldsOk Tryz.prog 39 := ⟨_,Tryz.underlying39,by kernel_rfl⟩
theorem fk42 : FldsOk Tryz.prog 42 := ⟨_,Tryz.underlying42,by kernel_rfl⟩
theorem fk45 : FldsOk Tryz.prog 45 := ⟨_,Tryz.underlying45,by kernel_rfl⟩
theorem fk56 : FldsOk Tryz.prog 56 := ⟨_,Tryz.underlying56,by kernel_rfl⟩
theorem fk62 : FldsOk Tryz.prog 62 := ⟨_,Tryz.underlying62,by kernel_rfl⟩
theorem fk65 : FldsOk Tryz.prog 65 := ⟨_,Tryz.underlying65,by kernel_rfl⟩
theorem fk84 : FldsOk Tryz.prog 84 := ⟨_,Tryz.underlying84,by kernel_rfl⟩
theorem fl104_0 : Fld Tryz.prog 104 0 0 1 false := ⟨_,_,Tryz.underlying104,rfl,rfl,⟨by kernel_rfl,by kernel_rfl⟩,rfl⟩
theorem fl104_1 : Fld Tryz.prog 104 1 1 1 false := ⟨_,_,Tryz.underlying104,rfl,rfl,⟨by kernel_rfl,by kernel_rfl⟩,rfl⟩
theorem fl104_2 : Fld Tryz.prog 104 2 2 2 true := ⟨_,_,Tryz.underlying104,rfl,rfl,⟨by kernel_rfl,by kernel_rfl⟩,rfl⟩
theorem fl104_3 : Fld Tryz.prog 104 3 4 1 false := ⟨_,_,Tryz.underlying104,rfl,rfl,⟨by kernel_rfl,by kernel_rfl⟩,rfl⟩
theorem fl127_0 : Fld Tryz.prog 127 0 0 1 false := ⟨_,_,Tryz.underlying127,rfl,rfl,⟨by kernel_rfl,by kernel_rfl⟩,rfl⟩
theorem fl127_1 : Fld Tryz.prog 127 1 1 1 false := ⟨_,_,Tryz.underlying127,rfl,rfl,⟨by kernel_rfl,by kernel_rfl⟩,rfl⟩
theorem fl127_2 : Fld Tryz.prog 127 2 2 1 false := ⟨_,_,Tryz.underlying127,rfl,rfl,⟨by kernel_rfl,by kernel_rfl⟩,rfl⟩
theorem fl130_0 : Fld Tryz.prog 130 0 0 1 false := ⟨_,_,Tryz.underlying130,rfl,rfl,⟨by kernel_rfl,by kernel_rfl⟩,rfl⟩
theorem fl130_1 : Fld Tryz.prog 130 1 1 27 true := ⟨_,_,Tryz.underlying130,rfl,rfl,⟨by kernel_rfl,by kernel_rfl⟩,rfl⟩
theorem fl23_0 : Fld Tryz.prog 23 0 0 1 false := ⟨_,_,Tryz.underlying23,rfl,rfl,⟨by kernel_rfl,by kernel_rfl⟩,rfl⟩
theorem fl23_1 : Fld Tryz.prog 23 1 1 1 false := ⟨_,_,Tryz.underlying23,rfl,rfl,⟨by kernel_rfl,by kernel_rfl⟩,rfl⟩
theorem fl23_2 : Fld Tryz.prog 23 2 2 1 false := ⟨_,_,Tryz.underlying23,rfl,rfl,⟨by kernel_rfl,by kernel_rfl⟩,rfl⟩
theorem fl23_3 : Fld Tryz.prog 23 3 3 1 false := ⟨_,_,Tryz.underlying23,rfl,rfl,⟨by kernel_rfl,by kernel_rfl⟩,rfl⟩
theorem fl23_4 : Fld Tryz.prog 23 4 4 1 false := ⟨_,_,Tryz.underlying23,rfl,rfl,⟨by kernel_rfl,by kernel_rfl⟩,rfl⟩
theorem fl23_5 : Fld Tryz.prog 23 5 5 1 false := ⟨_,_,Tryz.underlying23,rfl,rfl,⟨by kernel_rfl,by kernel_rfl⟩,rfl⟩
theorem fl23_6 : Fld Tryz.prog 23 6 6 1 false := ⟨_,_,Tryz.underlying23,rfl,rfl,⟨by kernel_rfl,by kernel_rfl⟩,rfl⟩
theorem fl39_0 : Fld Tryz.prog 39 0 0 1 false := ⟨_,_,Tryz.underlying39,rfl,rfl,⟨by kernel_rfl,by kernel_rfl⟩,rfl⟩
theorem fl39_1 : Fld Tryz.prog 39 1 1 1 false := ⟨_,_,Tryz.underlying39,rfl,rfl,⟨by kernel_rfl,by kernel_rfl⟩,rfl⟩
theorem fl42_0 : Fld Tryz.prog 42 0 0 1 false := ⟨_,_,Tryz.underlying42,rfl,rfl,⟨by kernel_rfl,by kernel_rfl⟩,rfl⟩
theorem fl42_1 : Fld Tryz.prog 42 1 1 1 false := ⟨_,_,Tryz.underlying42,rfl,rfl,⟨by kernel_rfl,by kernel_rfl⟩,rfl⟩
theorem fl45_0 : Fld Tryz.prog 45 0 0 1 false := ⟨_,_,Tryz.underlying45,rfl,rfl,⟨by kernel_rfl,by kernel_rfl⟩,rfl⟩
theorem fl45_1 : Fld Tryz.prog 45 1 1 1 false := ⟨_,_,Tryz.underlying45,rfl,rfl,⟨by kernel_rfl,by kernel_rfl⟩,rfl⟩
theorem fl45_10 : Fld Tryz.prog 45 10 11 1 false := ⟨_,_,Tryz.underlying45,rfl,rfl,⟨by kernel_rfl,by kernel_rfl⟩,rfl⟩
theorem fl45_11 : Fld Tryz.prog 45 11 12 16 true := ⟨_,_,Tryz.underlying45,rfl,rfl,⟨by kernel_rfl,by kernel_rfl⟩,rfl⟩
theorem fl45_2 : Fld Tryz.prog 45 2 2 1 false := ⟨_,_,Tryz.underlying45,rfl,rfl,⟨by kernel_rfl,by kernel_rfl⟩,rfl⟩
theorem fl45_3 : Fld Tryz.prog 45 3 3 1 false := ⟨_,_,Tryz.underlying45,rfl,rfl,⟨by kernel_rfl,by kernel_rfl⟩,rfl⟩
theorem fl45_4 : Fld Tryz.prog 45 4 4 1 false := ⟨_,_,Tryz.underlying45,rfl,rfl,⟨by kernel_rfl,by kernel_rfl⟩,rfl⟩
theorem fl45_5 : Fld Tryz.prog 45 5 5 2 true := ⟨_,_,Tryz.underlying45,rfl,rfl,⟨by kernel_rfl,by kernel_rfl⟩,rfl⟩
theorem fl45_6 : Fld Tryz.prog 45 6 7 1 false := ⟨_,_,Tryz.underlying45,rfl,rfl,⟨by kernel_rfl,by kernel_rfl⟩,rfl⟩
theorem fl45_7 : Fld Tryz.prog 45 7 8 1 false := ⟨_,_,Tryz.underlying45,rfl,rfl,⟨by kernel_rfl,by kernel_rfl⟩,rfl⟩
theorem fl45_8 : Fld Tryz.prog 45 8 9 1 false := ⟨_,_,Tryz.underlying45,rfl,rfl,⟨by kernel_rfl,by kernel_rfl⟩,rfl⟩
theorem fl45_9 : Fld Tryz.prog 45 9 10 1 false := ⟨_,_,Tryz.underlying45,rfl,rfl,⟨by kernel_rfl,by kernel_rfl⟩,rfl⟩
theorem fl47_0 : Fld Tryz.prog 47 0 0 1 false := ⟨_,_,Tryz.underlying47,rfl,rfl,⟨by kernel_rfl,by kernel_rfl⟩,rfl⟩
theorem fl47_1 : Fld Tryz.prog 47 1 1 1 false := ⟨_,_,Tryz.underlying47,rfl,rfl,⟨by kernel_rfl,by kernel_rfl⟩,rfl⟩
theorem fl47_2 : Fld Tryz.prog 47 2 2 2 true := ⟨_,_,Tryz.underlying47,rfl,rfl,⟨by kernel_rfl,by kernel_rfl⟩,rfl⟩
theorem fl47_3 : Fld Tryz.prog 47 3 4 1 false := ⟨_,_,Tryz.underlying47,rfl,rfl,⟨by kernel_rfl,by kernel_rfl⟩,rfl⟩
theorem fl47_4 : Fld Tryz.prog 47 4 5 28 true := ⟨_,_,Tryz.underlying47,rfl,rfl,⟨by kernel_rfl,by kernel_rfl⟩,rfl⟩
theorem fl56_0 : Fld Tryz.prog 56 0 0 1 false := ⟨_,_,Tryz.underlying56,rfl,rfl,⟨by kernel_rfl,by kernel_rfl⟩,rfl⟩
theorem fl56_1 : Fld Tryz.prog 56 1 1 1 false := ⟨_,_,Tryz.underlying56,rfl,rfl,⟨by kernel_rfl,by kernel_rfl⟩,rfl⟩
theorem fl56_2 : Fld Tryz.prog 56 2 2 1 false := ⟨_,_,Tryz.underlying56,rfl,rfl,⟨by kernel_rfl,by kernel_rfl⟩,rfl⟩
theorem fl56_3 : Fld Tryz.prog 56 3 3 1 false := ⟨_,_,Tryz.underlying56,rfl,rfl,⟨by kernel_rfl,by kernel_rfl⟩,rfl⟩
theorem fl62_0 : Fld Tryz.prog 62 0 0 1 false := ⟨_,_,Tryz.underlying62,rfl,rfl,⟨by kernel_rfl,by kernel_rfl⟩,rfl⟩
theorem fl62_1 : Fld Tryz.prog 62 1 1 1 false := ⟨_,_,Tryz.underlying62,rfl,rfl,⟨by kernel_rfl,by kernel_rfl⟩,rfl⟩
theorem fl62_10 : Fld Tryz.prog 62 10 11 1 false := ⟨_,_,Tryz.underlying62,rfl,rfl,⟨by kernel_rfl,by kernel_rfl⟩,rfl⟩
theorem fl62_11 : Fld Tryz.prog 62 11 12 1 false := ⟨_,_,Tryz.underlying62,rfl,rfl,⟨by kernel_rfl,by kernel_rfl⟩,rfl⟩
theorem fl62_2 : Fld Tryz.prog 62 2 2 1 false := ⟨_,_,Tryz.underlying62,rfl,rfl,⟨by kernel_rfl,by kernel_rfl⟩,rfl⟩
theorem fl62_3 : Fld Tryz.prog 62 3 3 1 false := ⟨_,_,Tryz.underlying62,rfl,rfl,⟨by kernel_rfl,by kernel_rfl⟩,rfl⟩
theorem fl62_4 : Fld Tryz.prog 62 4 4 1 false := ⟨_,_,Tryz.underlying62,rfl,rfl,⟨by kernel_rfl,by kernel_rfl⟩,rfl⟩
theorem fl62_5 : Fld Tryz.prog 62 5 5 1 false := ⟨_,_,Tryz.underlying62,rfl,rfl,⟨by kernel_rfl,by kernel_rfl⟩,rfl⟩
theorem fl62_6 : Fld Tryz.prog 62 6 6 2 true := ⟨_,_,Tryz.underlying62,rfl,rfl,⟨by kernel_rfl,by kernel_rfl⟩,rfl⟩
theorem fl62_7 : Fld Tryz.prog 62 7 8 1 false := ⟨_,_,Tryz.underlying62,rfl,rfl,⟨by kernel_rfl,by kernel_rfl⟩,rfl⟩
theorem fl62_8 : Fld Tryz.prog 62 8 9 1 false := ⟨_,_,Tryz.underlying62,rfl,rfl,⟨by kernel_rfl,by kernel_rfl⟩,rfl⟩
theorem fl62_9 : Fld Tryz.prog 62 9 10 1 false := ⟨_,_,Tryz.underlying62,rfl,rfl,⟨by kernel_rfl,by kernel_rfl⟩,rfl⟩
theorem fl65_0 : Fld Tryz.prog 65 0 0 1 false := ⟨_,_,Tryz.underlying65,rfl,rfl,⟨by kernel_rfl,by kernel_rfl⟩,rfl⟩
theorem fl65_1 : Fld Tryz.prog 65 1 1 1 false := ⟨_,_,Tryz.underlying65,rfl,rfl,⟨by kernel_rfl,by kernel_rfl⟩,rfl⟩
theorem fl65_2 : Fld Tryz.prog 65 2 2 1 false := ⟨_,_,Tryz.underlying65,rfl,rfl,⟨by kernel_rfl,by kernel_rfl⟩,rfl⟩
theorem fl65_3 : Fld Tryz.prog 65 3 3 2 true := ⟨_,_,Tryz.underlying65,rfl,rfl,⟨by kernel_rfl,by kernel_rfl⟩,rfl⟩
theorem fl65_4 : Fld Tryz.prog 65 4 5 1 false := ⟨_,_,Tryz.underlying65,rfl,rfl,⟨by kernel_rfl,by kernel_rfl⟩,rfl⟩
theorem fl65_5 : Fld Tryz.prog 65 5 6 1 false := ⟨_,_,Tryz.underlying65,rfl,rfl,⟨by kernel_rfl,by kernel_rfl⟩,rfl⟩
theorem fl84_0 : Fld Tryz.prog 84 0 0 7 true := ⟨_,_,Tryz.underlying84,rfl,rfl,⟨by kernel_rfl,by kernel_rfl⟩,rfl⟩
theorem fl84_1 : Fld Tryz.prog 84 1 7 1 false := ⟨_,_,Tryz.underlying84,rfl,rfl,⟨by kernel_rfl,by kernel_rfl⟩,rfl⟩
theorem fl84_2 : Fld Tryz.prog 84 2 8 1 false := ⟨_,_,Tryz.underlying84,rfl,rfl,⟨by kernel_rfl,by kernel_rfl⟩,rfl⟩
theorem fl84_3 : Fld Tryz.prog 84 3 9 1 false := ⟨_,_,Tryz.underlying84,rfl,rfl,⟨by kernel_rfl,by kernel_rfl⟩,rfl⟩
theorem fl84_4 : Fld Tryz.prog 84 4 10 1 false := ⟨_,_,Tryz.underlying84,rfl,rfl,⟨by kernel_rfl,by kernel_rfl⟩,rfl⟩
theorem fl84_5 : Fld Tryz.prog 84 5 11 1 false := ⟨_,_,Tryz.underlying84,rfl,rfl,⟨by kernel_rfl,by kernel_rfl⟩,rfl⟩
theorem kf10 : IsFn Tryz.prog 10 := ⟨_,Tryz.func10,by kernel_rfl,by kernel_rfl⟩
theorem kf100 : IsFn Tryz.prog 100 := ⟨_,Tryz.func100,by kernel_rfl,by kernel_rfl⟩
theorem kf101 : IsFn Tryz.prog 101 := ⟨_,Tryz.func101,by kernel_rfl,by kernel_rfl⟩
theorem kf102 : IsFn Tryz.prog 102 := ⟨_,Tryz.func102,by kernel_rfl,by kernel_rfl⟩
theorem kf103 : IsFn Tryz.prog 103 := ⟨_,Tryz.func103,by kernel_rfl,by kernel_rfl⟩
theorem kf104 : IsFn Tryz.prog 104 := ⟨_,Tryz.func104,by kernel_rfl,by kernel_rfl⟩
theorem kf105 : IsFn Tryz.prog 105 := ⟨_,Tryz.func105,by kernel_rfl,by kernel_rfl⟩
theorem kf106 : IsFn Tryz.prog 106 := ⟨_,Tryz.func106,by kernel_rfl,by kernel_rfl⟩
theorem kf107 : IsFn Tryz.prog 107 := ⟨_,Tryz.func107,by kernel_rfl,by kernel_rfl⟩
theorem kf108 : IsFn Tryz.prog 108 := ⟨_,Tryz.func108,by kernel_rfl,by kernel_rfl⟩
theorem kf109 : IsFn Tryz.prog 109 := ⟨_,Tryz.func109,by kernel_rfl,by kernel_rfl⟩
theorem kf11 : IsFn Tryz.prog 11 := ⟨_,Tryz.func11,by kernel_rfl,by kernel_rfl⟩
theorem kf110 : IsFn Tryz.prog 110 := ⟨_,Tryz.func110,by kernel_rfl,by kernel_rfl⟩
theorem kf111 : IsFn Tryz.prog 111 := ⟨_,Tryz.func111,by kernel_rfl,by kernel_rfl⟩
theorem kf112 : IsFn Tryz.prog 112 := ⟨_,Tryz.func112,by kernel_rfl,by kernel_rfl⟩
theorem kf113 : IsFn Tryz.prog 113 := ⟨_,Tryz.func113,by kernel_rfl,by kernel_rfl⟩
theorem kf114 : IsFn Tryz.prog 114 := ⟨_,Tryz.func114,by kernel_rfl,by kernel_rfl⟩
theorem kf13 : IsFn Tryz.prog 13 := ⟨_,Tryz.func13,by kernel_rfl,by kernel_rfl⟩
theorem kf133 : IsFn Tryz.prog 133 := ⟨_,Tryz.func133,by kernel_rfl,by kernel_rfl⟩
theorem kf134 : IsFn Tryz.prog 134 := ⟨_,Tryz.func134,by kernel_rfl,by kernel_rfl⟩
theorem kf135 : IsFn Tryz.prog 135 := ⟨_,Tryz.func135,by kernel_rfl,by kernel_rfl⟩
theorem kf136 : IsFn Tryz.prog 136 := ⟨_,Tryz.func136,by kernel_rfl,by kernel_rfl⟩
theorem kf137 : IsFn Tryz.prog 137 := ⟨_,Tryz.func137,by kernel_rfl,by kernel_rfl⟩
theorem kf138 : IsFn Tryz.prog 138 := ⟨_,Tryz.func138,by kernel_rfl,by kernel_rfl⟩
theorem kf139 : IsFn Tryz.prog 139 := ⟨_,Tryz.func139,by kernel_rfl,by kernel_rfl⟩
theorem kf140 : IsFn Tryz.prog 140 := ⟨_,Tryz.func140,by kernel_rfl,by kernel_rfl⟩
theorem kf141 : IsFn Tryz.prog 141 := ⟨_,Tryz.func141,by kernel_rfl,by kernel_rfl⟩
theorem kf142 : IsFn Tryz.prog 142 := ⟨_,Tryz.func142,by kernel_rfl,by kernel_rfl⟩
theorem kf143 : IsFn Tryz.prog 143 := ⟨_,Tryz.func143,by kernel_rfl,by kernel_rfl⟩
theorem kf144 : IsFn Tryz.prog 144 := ⟨_,Tryz.func144,by kernel_rfl,by kernel_rfl⟩
theorem kf145 : IsFn Tryz.prog 145 := ⟨_,Tryz.func145,by kernel_rfl,by kernel_rfl⟩
theorem kf148 : IsFn Tryz.prog 148 := ⟨_,Tryz.func148,by kernel_rfl,by kernel_rfl⟩
theorem kf149 : IsFn Tryz.prog 149 := ⟨_,Tryz.func149,by kernel_rfl,by kernel_rfl⟩
theorem kf15 : IsFn Tryz.prog 15 := ⟨_,Tryz.func15,by kernel_rfl,by kernel_rfl⟩
theorem kf152 : IsFn Tryz.prog 152 := ⟨_,Tryz.func152,by kernel_rfl,by kernel_rfl⟩
theorem kf153 : IsFn Tryz.prog 153 := ⟨_,Tryz.func153,by kernel_rfl,by kernel_rfl⟩
theorem kf156 : IsFn Tryz.prog 156 := ⟨_,Tryz.func156,by kernel_rfl,by kernel_rfl⟩
theorem kf157 : IsFn Tryz.prog 157 := ⟨_,Tryz.func157,by kernel_rfl,by kernel_rfl⟩
theorem kf168 : IsFn Tryz.prog 168 := ⟨_,Tryz.func168,by kernel_rfl,by kernel_rfl⟩
theorem kf169 : IsFn Tryz.prog 169 := ⟨_,Tryz.func169,by kernel_rfl,by kernel_rfl⟩
theorem kf17 : IsFn Tryz.prog 17 := ⟨_,Tryz.func17,by kernel_rfl,by kernel_rfl⟩
theorem kf19 : IsFn Tryz.prog 19 := ⟨_,Tryz.func19,by kernel_rfl,by kernel_rfl⟩
theorem kf20 : IsFn Tryz.prog 20 := ⟨_,Tryz.func20,by kernel_rfl,by kernel_rfl⟩
theorem kf21 : IsFn Tryz.prog 21 := ⟨_,Tryz.func21,by kernel_rfl,by kernel_rfl⟩
theorem kf22 : IsFn Tryz.prog 22 := ⟨_,Tryz.func22,by kernel_rfl,by kernel_rfl⟩
theorem kf23 : IsFn Tryz.prog 23 := ⟨_,Tryz.func23,by kernel_rfl,by kernel_rfl⟩
theorem kf24 : IsFn Tryz.prog 24 := ⟨_,Tryz.func24,by kernel_rfl,by kernel_rfl⟩
theorem kf25 : IsFn Tryz.prog 25 := ⟨_,Tryz.func25,by kernel_rfl,by kernel_rfl⟩
theorem kf26 : IsFn Tryz.prog 26 := ⟨_,Tryz.func26,by kernel_rfl,by kernel_rfl⟩
theorem kf27 : IsFn Tryz.prog 27 := ⟨_,Tryz.func27,by kernel_rfl,by kernel_rfl⟩
theorem kf28 : IsFn Tryz.prog 28 := ⟨_,Tryz.func28,by kernel_rfl,by kernel_rfl⟩
theorem kf29 : IsFn Tryz.prog 29 := ⟨_,Tryz.func29,by kernel_rfl,by kernel_rfl⟩
theorem kf31 : IsFn Tryz.prog 31 := ⟨_,Tryz.func31,by kernel_rfl,by kernel_rfl⟩
theorem kf32 : IsFn Tryz.prog 32 := ⟨_,Tryz.func32,by kernel_rfl,by kernel_rfl⟩
theorem kf33 : IsFn Tryz.prog 33 := ⟨_,Tryz.func33,by kernel_rfl,by kernel_rfl⟩
theorem kf40 : IsFn Tryz.prog 40 := ⟨_,Tryz.func40,by kernel_rfl,by kernel_rfl⟩
theorem kf41 : IsFn Tryz.prog 41 := ⟨_,Tryz.func41,by kernel_rfl,by kernel_rfl⟩
theorem kf42 : IsFn Tryz.prog 42 := ⟨_,Tryz.func42,by kernel_rfl,by kernel_rfl⟩
theorem kf43 : IsFn Tryz.prog 43 := ⟨_,Tryz.func43,by kernel_rfl,by kernel_rfl⟩
theorem kf44 : IsFn Tryz.prog 44 := ⟨_,Tryz.func44,by kernel_rfl,by kernel_rfl⟩
theorem kf45 : IsFn Tryz.prog 45 := ⟨_,Tryz.func45,by kernel_rfl,by kernel_rfl⟩
theorem kf46 : IsFn Tryz.prog 46 := ⟨_,Tryz.func46,by kernel_rfl,by kernel_rfl⟩
theorem kf47 : IsFn Tryz.prog 47 := ⟨_,Tryz.func47,by kernel_rfl,by kernel_rfl⟩
theorem kf48 : IsFn Tryz.prog 48 := ⟨_,Tryz.func48,by kernel_rfl,by kernel_rfl⟩
theorem kf49 : IsFn Tryz.prog 49 := ⟨_,Tryz.func49,by kernel_rfl,by kernel_rfl⟩
theorem kf50 : IsFn Tryz.prog 50 := ⟨_,Tryz.func50,by kernel_rfl,by kernel_rfl⟩
theorem kf51 : IsFn Tryz.prog 51 := ⟨_,Tryz.func51,by kernel_rfl,by kernel_rfl⟩
theorem kf52 : IsFn Tryz.prog 52 := ⟨_,Tryz.func52,by kernel_rfl,by kernel_rfl⟩
theorem kf53 : IsFn Tryz.prog 53 := ⟨_,Tryz.func53,by kernel_rfl,by kernel_rfl⟩
theorem kf54 : IsFn Tryz.prog 54 := ⟨_,Tryz.func54,by kernel_rfl,by kernel_rfl⟩
theorem kf55 : IsFn Tryz.prog 55 := ⟨_,Tryz.func55,by kernel_rfl,by kernel_rfl⟩
theorem kf56 : IsFn Tryz.prog 56 := ⟨_,Tryz.func56,by kernel_rfl,by kernel_rfl⟩
theorem kf57 : IsFn Tryz.prog 57 := ⟨_,Tryz.func57,by kernel_rfl,by kernel_rfl⟩
theorem kf58 : IsFn Tryz.prog 58 := ⟨_,Tryz.func58,by kernel_rfl,by kernel_rfl⟩
theorem kf59 : IsFn Tryz.prog 59 := ⟨_,Tryz.func59,by kernel_rfl,by kernel_rfl⟩
theorem kf60 : IsFn Tryz.prog 60 := ⟨_,Tryz.func60,by kernel_rfl,by kernel_rfl⟩
theorem kf61 : IsFn Tryz.prog 61 := ⟨_,Tryz.func61,by kernel_rfl,by kernel_rfl⟩
theorem kf62 : IsFn Tryz.prog 62 := ⟨_,Tryz.func62,by kernel_rfl,by kernel_rfl⟩
theorem kf63 : IsFn Tryz.prog 63 := ⟨_,Tryz.func63,by kernel_rfl,by kernel_rfl⟩
theorem kf64 : IsFn Tryz.prog 64 := ⟨_,Tryz.func64,by kernel_rfl,by kernel_rfl⟩
theorem kf65 : IsFn Tryz.prog 65 := ⟨_,Tryz.func65,by kernel_rfl,by kernel_rfl⟩
theorem kf66 : IsFn Tryz.prog 66 := ⟨_,Tryz.func66,by kernel_rfl,by kernel_rfl⟩
theorem kf67 : IsFn Tryz.prog 67 := ⟨_,Tryz.func67,by kernel_rfl,by kernel_rfl⟩
theorem kf68 : IsFn Tryz.prog 68 := ⟨_,Tryz.func68,by kernel_rfl,by kernel_rfl⟩
theorem kf69 : IsFn Tryz.prog 69 := ⟨_,Tryz.func69,by kernel_rfl,by kernel_rfl⟩
theorem kf90 : IsFn Tryz.prog 90 := ⟨_,Tryz.func90,by kernel_rfl,by kernel_rfl⟩
theorem kf91 : IsFn Tryz.prog 91 := ⟨_,Tryz.func91,by kernel_rfl,by kernel_rfl⟩
theorem kf92 : IsFn Tryz.prog 92 := ⟨_,Tryz.func92,by kernel_rfl,by kernel_rfl⟩
theorem kf93 : IsFn Tryz.prog 93 := ⟨_,Tryz.func93,by kernel_rfl,by kernel_rfl⟩
theorem kf94 : IsFn Tryz.prog 94 := ⟨_,Tryz.func94,by kernel_rfl,by kernel_rfl⟩
theorem kf95 : IsFn Tryz.prog 95 := ⟨_,Tryz.func95,by kernel_rfl,by kernel_rfl⟩
theorem kf96 : IsFn Tryz.prog 96 := ⟨_,Tryz.func96,by kernel_rfl,by kernel_rfl⟩
theorem kf97 : IsFn Tryz.prog 97 := ⟨_,Tryz.func97,by kernel_rfl,by kernel_rfl⟩
theorem kf98 : IsFn Tryz.prog 98 := ⟨_,Tryz.func98,by kernel_rfl,by kernel_rfl⟩
theorem kf99 : IsFn Tryz.prog 99 := ⟨_,Tryz.func99,by kernel_rfl,by kernel_rfl⟩
theorem kt3 : KeyT Tryz.prog 3 kI ieq := keyT_int Tryz.underlying3
theorem ts127 : TyS Tryz.prog 127 3 true := ⟨by kernel_rfl,by kernel_rfl⟩
theorem ts128 : TyS Tryz.prog 128 27 true := ⟨by kernel_rfl,by kernel_rfl⟩
theorem ts173 : TyS Tryz.prog 173 1 false := ⟨by kernel_rfl,by kernel_rfl⟩
theorem ts23 : TyS Tryz.prog 23 7 true := ⟨by kernel_rfl,by kernel_rfl⟩
theorem ts26 : TyS Tryz.prog 26 1 false := ⟨by kernel_rfl,by kernel_rfl⟩
theorem ts3 : TyS Tryz.prog 3 1 false := ⟨by kernel_rfl,by kernel_rfl⟩
theorem ts35 : TyS Tryz.prog 35 1 false := ⟨by kernel_rfl,by kernel_rfl⟩
theorem ts39 : TyS Tryz.prog 39 2 true := ⟨by kernel_rfl,by kernel_rfl⟩
theorem ts4 : TyS Tryz.prog 4 1 false := ⟨by kernel_rfl,by kernel_rfl⟩
theorem ts40 : TyS Tryz.prog 40 1 false := ⟨by kernel_rfl,by kernel_rfl⟩
theorem ts42 : TyS Tryz.prog 42 2 true := ⟨by kernel_rfl,by kernel_rfl⟩
theorem ts43 : TyS Tryz.prog 43 16 true := ⟨by kernel_rfl,by kernel_rfl⟩
theorem ts45 : TyS Tryz.prog 45 28 true := ⟨by kernel_rfl,by kernel_rfl⟩
theorem ts47 : TyS Tryz.prog 47 33 true := ⟨by kernel_rfl,by kernel_rfl⟩
theorem ts53 : TyS Tryz.prog 53 1 false := ⟨by kernel_rfl,by kernel_rfl⟩
theorem ts54 : TyS Tryz.prog 54 1 false := ⟨by kernel_rfl,by kernel_rfl⟩
theorem ts56 : TyS Tryz.prog 56 4 true := ⟨by kernel_rfl,by kernel_rfl⟩
theorem ts59 : TyS Tryz.prog 59 1 false := ⟨by kernel_rfl,by kernel_rfl⟩
theorem ts60 : TyS Tryz.prog 60 1 false := ⟨by kernel_rfl,by kernel_rfl⟩
theorem ts62 : TyS Tryz.prog 62 13 true := ⟨by kernel_rfl,by kernel_rfl⟩
theorem ts65 : TyS Tryz.prog 65 7 true := ⟨by kernel_rfl,by kernel_rfl⟩
theorem ts79 : TyS Tryz.prog 79 1 false := ⟨by kernel_rfl,by kernel_rfl⟩
theorem ts82 : TyS Tryz.prog 82 1 false := ⟨by kernel_rfl,by kernel_rfl⟩
theorem ze104 : ZeroT Tryz.prog 104 (AG 5 (iv (fun _=>0))) := by unfold ZeroT; kernel_rfl
theorem ze127 : ZeroT Tryz.prog 127 (AG 3 (mv (kS [2]) (fun _=>0))) := by unfold ZeroT; kernel_rfl
theorem ze130 : ZeroT Tryz.prog 130 (AG 28 (mv (kPA 1 3 (kS [2])) (fun _=>0))) := by unfold ZeroT; kernel_rfl
theorem ze23 : ZeroT Tryz.prog 23 (AG 7 (mv (kS [1]) (fun _=>0))) := by unfold ZeroT; kernel_rfl
theorem ze3 : ZeroT Tryz.prog 3 (.int .i64 0) := by unfold ZeroT; kernel_rfl
theorem ze35 : ZeroT Tryz.prog 35 (.slice none 0 0) := by unfold ZeroT; kernel_rfl
theorem ze39 : ZeroT Tryz.prog 39 (AG 2 (iv (fun _=>0))) := by unfold ZeroT; kernel_rfl
theorem ze42 : ZeroT Tryz.prog 42 (AG 2 (iv (fun _=>0))) := by unfold ZeroT; kernel_rfl
theorem ze43 : ZeroT Tryz.prog 43 (AG 16 (iv (fun _=>0))) := by unfold ZeroT; kernel_rfl
theorem ze45 : ZeroT Tryz.prog 45 (AG 28 (iv (fun _=>0))) := by unfold ZeroT; kernel_rfl
theorem ze56 : ZeroT Tryz.prog 56 (AG 4 (fun i=>([.int .i64 0,.int .i64 0,.slice none 0 0,.slice none 0 0] : List Value).getD i undef)) := by unfold ZeroT; kernel_rfl
theorem ze62 : ZeroT Tryz.prog 62 (AG 13 (fun i=>([.int .i64 0,.int .i64 0,.int .i64 0,.int .i64 0,.bool false,.int .i64 0,.int .i64 0,.int .i64 0,.int .i64 0,.slice none 0 0,.slice none 0 0,.slice none 0 0,.slice none 0 0] : List Value).getD i undef)) := by unfold ZeroT; kernel_rfl
theorem ze65 : ZeroT Tryz.prog 65 (AG 7 (iv (fun _=>0))) := by unfold ZeroT; kernel_rfl
theorem ze84 : ZeroT Tryz.prog 84 (AG 12 (fun i=>([.int .i64 0,.bool false,.int .i64 0,.int .i64 0,.int .i64 0,.int .i64 0,.int .i64 0,.pointer none,.int .i64 0,.int .i64 0,.map none,.slice none 0 0] : List Value).getD i undef)) := by unfold ZeroT; kernel_rfl
structure nT62 (A : GH) (t : UT) (f : Nat → Value) : Prop where
 c0 : f 0=.int .i64 t.1
 c1 : f 1=.int .i64 t.2.1
 c2 : f 2=.int .i64 t.2.2.1
 c3 : f 3=.int .i64 t.2.2.2.1
 c4 : f 4=.bool (t.2.2.2.2.1)
 c5 : f 5=.int .i64 t.2.2.2.2.2.1
 c6 : f 6=.int .i64 (t.2.2.2.2.2.2.1 0)
 c7 : f 7=.int .i64 (t.2.2.2.2.2.2.1 1)
 c8 : f 8=.int .i64 t.2.2.2.2.2.2.2.1
 s9 : OJ 3 1 ic A (f 9) t.2.2.2.2.2.2.2.2.1
 s10 : OJ 3 1 ic A (f 10) t.2.2.2.2.2.2.2.2.2.1
 s11 : OJ 3 1 ic A (f 11) t.2.2.2.2.2.2.2.2.2.2.1
 s12 : OJ 104 5 iv A (f 12) t.2.2.2.2.2.2.2.2.2.2.2
theorem nT62.mono : MonoR nT62 := fun _ _ _ _ hs h=>{ h with s9 := h.s9.mono hs,s10 := h.s10.mono hs,s11 := h.s11.mono hs,s12 := h.s12.mono hs }
theorem nT62.all {A : GH} {t : UT} {f : Nat → Value} (h : nT62 A t f) : ∀ i,i < 13 → f i=cl [.int .i64 t.1,.int .i64 t.2.1,.int .i64 t.2.2.1,.int .i64 t.2.2.2.1,.bool (t.2.2.2.2.1),.int .i64 t.2.2.2.2.2.1,.int .i64 (t.2.2.2.2.2.2.1 0),.int .i64 (t.2.2.2.2.2.2.1 1),.int .i64 t.2.2.2.2.2.2.2.1,f 9,f 10,f 11,f 12] i := M13 h.c0 h.c1 h.c2 h.c3 h.c4 h.c5 h.c6 h.c7 h.c8 rfl rfl rfl rfl
def nZ62 : Nat → Value := cl [.int .i64 0,.int .i64 0,.int .i64 0,.int .i64 0,.bool false,.int .i64 0,.int .i64 0,.int .i64 0,.int .i64 0,.slice none 0 0,.slice none 0 0,.slice none 0 0,.slice none 0 0]
theorem nT62.zero : nT62 [] (0,0,0,0,false,0,(fun _=>0),0,[],[],[],[]) nZ62 := ⟨rfl,rfl,rfl,rfl,rfl,rfl,rfl,rfl,rfl,OJ.nil,OJ.nil,OJ.nil,OJ.nil⟩
end Go.Proofs.YtljklmlodfbdnaaGreat
