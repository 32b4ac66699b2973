/- Part 4 of the proof. -/
import Derived.Test.YtljklmlodfbdnaaGreatJ3
import Derived.Test.YtljklmlodfbdnaaGreatJ2
set_option maxHeartbeats 1000000
set_option maxRecDepth 100000
set_option linter.unusedVariables false
set_option linter.unusedSimpArgs false
set_option linter.unusedSectionVars false
set_option linter.unnecessarySimpa false
namespace Go.E
open Go
theorem ways_eq (m : Nat → Int) (h1 : 1≤m 0) (h2 : m 0≤11) : (((((decide (strAt (⟨#[111,98,98,111,98,111,98,111,98,98,101]⟩ : ByteArray) ((m 0) - 1)=111)) && (!(((decide (m 1=0)) && (decide (1≤m 2))) && (decide (m 2≤64))))) || ((decide (strAt (⟨#[111,98,98,111,98,111,98,111,98,98,101]⟩ : ByteArray) ((m 0) - 1)=98)) && (!(((decide (m 2=0)) && (decide (1≤m 1))) && (decide (m 1≤64)))))) || ((!(((decide (m 1=0)) && (decide (1≤m 2))) && (decide (m 2≤64)))) && (!(((decide (m 2=0)) && (decide (1≤m 1))) && (decide (m 1≤64)))))))=!endsB m := by
 have hs : ∀ k : Nat,k < 11 → strAt (⟨#[111,98,98,111,98,111,98,111,98,98,101]⟩ : ByteArray) (((k : Int) + 1) - 1)=if k=0∨k=3∨k=5∨k=7 then 111 else if k=10 then 101 else 98 := by decide +kernel
 obtain ⟨k,hk,e⟩ : ∃ k : Nat,k < 11∧m 0=(k : Int) + 1 := ⟨(m 0 - 1).toNat,by omega,by omega⟩
 rw [e,hs k hk]
 unfold endsB shB inB
 rw [e]
 rcases (show k=0∨k=1∨k=2∨k=3∨k=4∨k=5∨k=6∨k=7∨k=8∨k=9∨k=10 by omega) with rfl | rfl | rfl | rfl | rfl | rfl | rfl | rfl | rfl | rfl | rfl
 all_goals (rw [Bool.eq_iff_iff]; simp; try omega)
 by_cases h0 : m 1=0
 ·simp [h0]; omega
 ·simp [h0]; omega
end Go.E
namespace Go.E
open Go
theorem okB_kind {m : Nat → Int} (h : okB m=true) : 1≤m 0∧m 0≤11 := by
 have := (okB_rng h).1
 unfold okB mayB at h
 simp only [Bool.and_eq_true] at h
 obtain ⟨⟨_,hm⟩,_⟩ := h
 repeat' split at hm
 all_goals first | omega | cases hm
def oth (m : Nat → Int) : Prop :=
 ((m 0=1∨m 0=2)∧(1≤m 5∧m 5≤250∧0≤m 6∧m 6≤250)∧(1≤m 7∧m 7≤4)∧(1≤m 4∧m 4≤1048576)∧(1≤m 3∧m 3≤1048576)∧(m 8=0∧m 9=0)) ∨
 (m 0=3∧(1≤m 4∧m 4≤1048576)∧(1≤m 8∧m 8≤15)∧(1≤m 3∧m 3≤1048576)∧(m 5=0∧m 6=0∧m 7=0∧m 9=0)) ∨
 ((m 0=5∨m 0=6)∧(0≤m 8∧m 8≤1)∧(1≤m 3∧m 3≤1048576)∧(m 4=0∧m 5=0∧m 6=0∧m 7=0∧m 9=0)) ∨
 ((m 0=4∨m 0=7∨m 0=8∨m 0=9)∧(1≤m 3∧m 3≤1048576)∧(m 4=0∧m 5=0∧m 6=0∧m 7=0∧m 8=0∧m 9=0)) ∨
 (m 0=10∧(1≤m 3∧m 3≤1048576)∧(1≤m 9∧m 9≤1048576)∧m 9 < m 3∧(m 4=0∧m 5=0∧m 6=0∧m 7=0∧m 8=0))
def zt (m : Nat → Int) : Prop := m 10=0∧m 11=0∧m 12=0∧m 13=0∧m 14=0∧m 15=0∧m 16=0∧m 17=0∧m 18=0∧m 19=0∧m 20=0∧m 21=0∧m 22=0∧m 23=0∧m 24=0∧m 25=0∧m 26=0∧m 27=0
theorem okB_oth (m : Nat → Int) (h : m 0 ≠ 11) : okB m=true ↔ endsB m=true∧oth m∧zt m := by
 unfold okB mayB mayZ headM
 generalize endsB m=E
 cases E
 ·simp
 simp only [Bool.true_and,true_and]
 by_cases h1 : m 0=1∨m 0=2
 ·simp only [if_pos h1,Bool.and_eq_true,eqN_iff,all28,updI,updRI,resB,inB,txB,decide_eq_true_eq]
  simp [oth,zt]
  omega
 by_cases h2 : m 0=3
 ·simp only [if_neg h1,if_pos h2,Bool.and_eq_true,eqN_iff,all28,updI,updRI,resB,inB,txB,decide_eq_true_eq]
  simp [oth,zt]
  omega
 by_cases h3 : m 0=5∨m 0=6
 ·simp only [if_neg h1,if_neg h2,if_pos h3,Bool.and_eq_true,eqN_iff,all28,updI,updRI,resB,inB,txB,decide_eq_true_eq]
  simp [oth,zt]
  omega
 by_cases h4 : m 0=4∨m 0=7∨m 0=8∨m 0=9
 ·simp only [if_neg h1,if_neg h2,if_neg h3,if_pos h4,Bool.and_eq_true,eqN_iff,all28,updI,updRI,resB,inB,txB,decide_eq_true_eq]
  simp [oth,zt]
  omega
 by_cases h5 : m 0=10
 ·simp only [if_neg h1,if_neg h2,if_neg h3,if_neg h4,if_pos h5,Bool.and_eq_true,eqN_iff,all28,updI,updRI,resB,inB,txB,decide_eq_true_eq]
  simp [oth,zt]
  omega
 ·simp only [if_neg h1,if_neg h2,if_neg h3,if_neg h4,if_neg h5,if_neg h]
  simp [oth]
  omega
end Go.E
namespace Go.E
open Go
abbrev T17 := Int × Int × Int × Int × Bool × Int × NI × Int × (List Int) × (List Int) × (List Int) × LM
abbrev Rise (l : List Int) : Prop := l.Pairwise fun a b=>a < b
structure TI (n : Nat) (tx st re sq : Int) (op : Bool) (sh : Int) (at_ : Nat → Int) (mo : Int) (to_ vo ac : List Int) (go : LM) : Prop where
 htx : 1≤tx∧tx≤1048576
 hst : 1≤st∧st≤4
 hre : 0≤re∧re≤5
 hre4 : st=4 ↔ 0 < re
 hsq : 0≤sq∧sq≤1048576
 to1 : Rise to_
 to2 : ∀ s ∈ to_,1≤s∧s≤64
 vo1 : Rise vo
 vo2 : ∀ s ∈ vo,s ∈ to_
 ac1 : Rise ac
 ac2 : ∀ s ∈ ac,s ∈ to_
 hgo : go.length≤n
 hop : op=true → st=1∧1≤sq∧(1≤sh∧sh≤64)∧sh ∈ to_∧resOk_F at_=true∧(1≤mo∧mo≤4)
 vo3 : st=3 → vo.length=to_.length
 vo4 : st=2 → vo.length < to_.length
 vo5 : st=1 → vo=[]
 ac3 : st=1∨st=2 → ac=[]
def TIT (n : Nat) (t : T17) : Prop := TI n t.1 t.2.1 t.2.2.1 t.2.2.2.1 t.2.2.2.2.1 t.2.2.2.2.2.1 t.2.2.2.2.2.2.1 t.2.2.2.2.2.2.2.1 t.2.2.2.2.2.2.2.2.1 t.2.2.2.2.2.2.2.2.2.1 t.2.2.2.2.2.2.2.2.2.2.1 t.2.2.2.2.2.2.2.2.2.2.2
theorem len64 {l : List Int} (h : Rise l) (h2 : ∀ s ∈ l,1≤s∧s≤64) : l.length≤64 := by
 have := nodup_len (rising_nodup h) (m := (List.range 64).map fun k : Nat=>(k : Int) + 1) (fun x hx=>by
  obtain ⟨h1,h3⟩ := h2 x hx
  exact List.mem_map.2 ⟨(x - 1).toNat,by simp; omega,by omega⟩)
 simpa using this
section
variable {n : Nat} {tx st re sq : Int} {op : Bool} {sh : Int} {at_ : Nat → Int} {mo : Int} {to_ vo ac : List Int} {go : LM}
theorem TI.mono {m : Nat} (h : TI n tx st re sq op sh at_ mo to_ vo ac go) (hm : n≤m) : TI m tx st re sq op sh at_ mo to_ vo ac go := { h with hgo := Nat.le_trans h.hgo hm }
theorem TI.lto (h : TI n tx st re sq op sh at_ mo to_ vo ac go) : to_.length≤64 := len64 h.to1 h.to2
theorem TI.lvo (h : TI n tx st re sq op sh at_ mo to_ vo ac go) : vo.length≤64 := len64 h.vo1 fun s hs=>h.to2 s (h.vo2 s hs)
theorem TI.lac (h : TI n tx st re sq op sh at_ mo to_ vo ac go) : ac.length≤64 := len64 h.ac1 fun s hs=>h.to2 s (h.ac2 s hs)
theorem TI.own (h : TI n tx st re sq op sh at_ mo to_ vo ac go) (hn : n≤1000000) : own_P tx st re sq op sh at_ mo to_ vo ac go := by
 have h1 := h.lto
 have h2 := h.lvo
 have h3 := h.lac
 have h4 := h.hgo
 unfold own_P cloneI_P cloneG_P
 exact ⟨by omega,by omega,by omega,by omega,trivial⟩
theorem sub_len {l m : List Int} (h : Rise l) (hs : ∀ s ∈ l,s ∈ m) : l.length≤m.length := nodup_len (rising_nodup h) hs
theorem tto_P_of {a b : Int} {l : List Int} (h : l.length≤64) : tto_P tx st re sq op sh at_ mo to_ vo ac go a b l := by unfold tto_P; omega
theorem tdec_P_of {l : List Int} (h : l.length≤64) : tdecision_P tx st re sq op sh at_ mo to_ vo ac go l := by
 unfold tdecision_P
 exact ⟨tto_P_of h,trivial⟩
theorem with_in {l : List Int} {x : Int} (h : (search_F l x).2=true) : insI x l=l := by rw [← with_eq,if_pos h]
theorem with_out {l : List Int} {x : Int} (h : ¬ (search_F l x).2=true) : insL1 (cloneI_F l) ((search_F l x).1).toNat x=insI x l := by rw [← with_eq,if_neg h]
theorem search_P_of {l : List Int} (x : Int) (h : Rise l) (hl : l.length≤64) : search_P l x := ⟨h,by omega⟩
theorem clone_P_of {l : List Int} (hl : l.length≤64) : cloneI_P l := by unfold cloneI_P; omega
theorem sort_P_of {l : List Int} (hl : l.length≤64) : sortP (cloneI_F l) := by unfold sortP cloneI_F; omega
theorem tdec_iff : tdecided_F tx st re sq op sh at_ mo to_ vo ac go=true ↔ st=3∨st=4 := by
 unfold tdecided_F
 by_cases h3 : st=3
 ·simp [h3]
 ·by_cases h4 : st=4
  ·simp [h4]
  ·simp [h3,h4]
def Snd (tx : Int) (to_ : List Int) (m : Nat → Int) : Prop := m 2 ∈ to_∧m 3=tx∧(m 0=1∨m 0=4∨m 0=6∨m 0=8)∧okB m=true
theorem snd_to {kind code s : Int} (hk : (kind=4∨kind=8)∧code=0∨kind=6∧0≤code∧code≤1) (ht : 1≤tx∧tx≤1048576) (hs : s ∈ to_) (h2 : 1≤s∧s≤64) : Snd tx to_ (toMsg tx kind code s) := by
 have e0 : toMsg tx kind code s 0=kind := rfl
 refine ⟨hs,rfl,by rw [e0]; omega,(okB_oth _ (by rw [e0]; omega)).2 ⟨?_,?_,?_⟩⟩
 ·unfold endsB shB inB
  rw [e0,if_neg (by omega),if_pos (by omega)]
  simp only [Bool.and_eq_true,decide_eq_true_eq]
  exact ⟨rfl,h2⟩
 ·unfold oth
  rw [e0]
  simp only [toMsg,updI]
  simp
  omega
 ·unfold zt
  simp [toMsg,updI]
theorem snd_all {kind code : Int} {l : List Int} (hk : (kind=4∨kind=8)∧code=0∨kind=6∧0≤code∧code≤1) (ht : 1≤tx∧tx≤1048576) (hs : ∀ s ∈ l,s ∈ to_) (h2 : ∀ s ∈ to_,1≤s∧s≤64) {m : Nat → Int} (hm : m ∈ l.map (toMsg tx kind code)) : Snd tx to_ m := by
 obtain ⟨s,h,rfl⟩ := List.mem_map.1 hm
 exact snd_to hk ht (hs s h) (h2 s (hs s h))
theorem snd_lock (h : TI n tx st re sq true sh at_ mo to_ vo ac go) : Snd tx to_ (tlock_F tx st re sq true sh at_ mo to_ vo ac go) := by
 obtain ⟨h1,h2,h3,h4,h5,h6⟩ := h.hop rfl
 have h7 := h.htx
 have h8 := h.hsq
 have e0 : tlock_F tx st re sq true sh at_ mo to_ vo ac go 0=1 := rfl
 refine ⟨h4,rfl,by rw [e0]; omega,(okB_oth _ (by rw [e0]; omega)).2 ⟨?_,?_,?_⟩⟩
 ·unfold endsB shB inB
  rw [e0,if_neg (by omega),if_pos (by omega)]
  simp only [Bool.and_eq_true,decide_eq_true_eq]
  exact ⟨rfl,h3⟩
 ·simp only [resOk_F,Bool.and_eq_true,decide_eq_true_eq] at h5
  unfold oth
  rw [e0]
  simp [tlock_F,updI,updRI]
  omega
 ·unfold zt
  simp [tlock_F,updI,updRI]
theorem TI.ask (h : TI n tx 1 re sq false sh at_ mo to_ vo ac go) (hq : sq ≠ 1048576) {s m : Int} {a : Nat → Int} (hs : 1≤s∧s≤64) (ha : resOk_F a=true) (hm : 1≤m∧m≤4) : TI n tx 1 re (sq + 1) true s a m (insI s to_) vo ac go := by
 have h1 := h.hsq
 exact { h with
  hsq := by omega
  to1 := rising_insI h.to1
  to2 := fun x hx=>(mem_insI.1 hx).elim (fun e=>e ▸ hs) (h.to2 x)
  vo2 := fun x hx=>by rw [h.vo5 rfl] at hx; simp at hx
  ac2 := fun x hx=>by rw [h.ac3 (.inl rfl)] at hx; simp at hx
  hop := fun _=>⟨rfl,by omega,hs,mem_insI.2 (.inl rfl),ha,hm⟩
  vo3 := fun e=>by omega
  vo4 := fun e=>by omega }
theorem TI.shut (h : TI n tx st re sq op sh at_ mo to_ vo ac go) : TI n tx st re sq false sh at_ mo to_ vo ac go := { h with hop := fun e=>by cases e }
theorem TI.got (h : TI n tx st re sq op sh at_ mo to_ vo ac go) (x : Nat → Int) : TI (n + 1) tx st re sq op sh at_ mo to_ vo ac (go++[x]) := { h with hgo := by have := h.hgo; simp; omega }
theorem TI.prep (h : TI n tx 1 re sq false sh at_ mo to_ vo ac go) (ht : ¬ (to_.length : Int)=0) : TI n tx 2 re sq false sh at_ mo to_ vo ac go := by
 have h1 := h.hre4
 exact { h with
  hst := by omega
  hre4 := by omega
  hop := fun e=>by cases e
  vo3 := fun e=>by omega
  vo4 := fun _=>by rw [h.vo5 rfl]; simp; omega
  vo5 := fun e=>by omega
  ac3 := fun _=>h.ac3 (.inl rfl) }
theorem TI.commit (h : TI n tx st re sq op sh at_ mo to_ vo ac go) (hv : vo.length=to_.length) : TI n tx 3 0 sq false sh at_ mo to_ vo ac go :=
 { h with
  hst := by omega
  hre := by omega
  hre4 := by omega
  hop := fun e=>by cases e
  vo3 := fun _=>hv
  vo4 := fun e=>by omega
  vo5 := fun e=>by omega
  ac3 := fun e=>by omega }
theorem TI.abort (h : TI n tx st re sq op sh at_ mo to_ vo ac go) {r : Int} (hr : 1≤r∧r≤5) : TI n tx 4 r sq false sh at_ mo to_ vo ac go :=
 { h with
  hst := by omega
  hre := by omega
  hre4 := by omega
  hop := fun e=>by cases e
  vo3 := fun e=>by omega
  vo4 := fun e=>by omega
  vo5 := fun e=>by omega
  ac3 := fun e=>by omega }
theorem rise_sub {s : Int} (h1 : Rise vo) (h2 : ∀ x ∈ vo,x ∈ to_) (hs : s ∈ to_) : (insI s vo).length≤to_.length := sub_len (rising_insI h1) fun x hx=>(mem_insI.1 hx).elim (fun e=>e ▸ hs) (h2 x)
theorem TI.vote (h : TI n tx 2 re sq op sh at_ mo to_ vo ac go) {s : Int} (hs : s ∈ to_) (hl : (insI s vo).length < to_.length) : TI n tx 2 re sq op sh at_ mo to_ (insI s vo) ac go :=
 { h with
  vo1 := rising_insI h.vo1
  vo2 := fun x hx=>(mem_insI.1 hx).elim (fun e=>e ▸ hs) (h.vo2 x)
  vo3 := fun e=>by omega
  vo4 := fun _=>hl
  vo5 := fun e=>by omega }
theorem TI.votes (h : TI n tx 2 re sq op sh at_ mo to_ vo ac go) {s : Int} (hs : s ∈ to_) (hl : ¬ (insI s vo).length < to_.length) : TI n tx 3 0 sq false sh at_ mo to_ (insI s vo) ac go := by
 have := rise_sub h.vo1 h.vo2 hs
 exact { h with
  hst := by omega
  hre := by omega
  hre4 := by omega
  hop := fun e=>by cases e
  vo1 := rising_insI h.vo1
  vo2 := fun x hx=>(mem_insI.1 hx).elim (fun e=>e ▸ hs) (h.vo2 x)
  vo3 := fun _=>by omega
  vo4 := fun e=>by omega
  vo5 := fun e=>by omega
  ac3 := fun e=>by omega }
theorem TI.ack (h : TI n tx st re sq op sh at_ mo to_ vo ac go) (hd : st=3∨st=4) {s : Int} (hs : s ∈ to_) : TI n tx st re sq op sh at_ mo to_ vo (insI s ac) go :=
 { h with
  ac1 := rising_insI h.ac1
  ac2 := fun x hx=>(mem_insI.1 hx).elim (fun e=>e ▸ hs) (h.ac2 x)
  ac3 := fun e=>by omega }
end
end Go.E
namespace Go.E
open Go
section
variable (tx st re sq : Int) (op : Bool) (sh : Int) (at_ : Nat → Int) (mo : Int) (to_ vo ac : List Int) (go : LM)
def lockM (tx sq sh : Int) (at_ : Nat → Int) (mo : Int) : Nat → Int := updI (updRI (updI (updI (updI (updI (fun _=>0) 0 1) 2 sh) 3 tx) 4 sq) 5 2 at_) 7 mo
def grantM (m : Nat → Int) : Nat → Int := updI (updRI (updI (updI (fun _=>0) 0 (m 3)) 1 (m 4)) 2 2 (fun i=>m (5 + i))) 4 (m 7)
def Form (tx k : Int) (m : Nat → Int) : Prop := m 0=k∧okB m=true∧m 3=tx
instance (tx k : Int) (m : Nat → Int) : Decidable (Form tx k m) := by unfold Form; exact inferInstance
def askC (s : Int) (a : Nat → Int) (m : Int) : T17 × LM × Int :=
 if (1≤s∧s≤64)∧resOk_F a=true∧(1≤m∧m≤4) then
  if st=1 then
   if op=true then ((tx,st,re,sq,op,sh,at_,mo,to_,vo,ac,go),[],8)
   else if sq=1048576 then ((tx,st,re,sq,op,sh,at_,mo,to_,vo,ac,go),[],6)
   else ((tx,st,re,sq + 1,true,s,a,m,insI s to_,vo,ac,go),[lockM tx (sq + 1) s a m],0)
  else ((tx,st,re,sq,op,sh,at_,mo,to_,vo,ac,go),[],11)
 else ((tx,st,re,sq,op,sh,at_,mo,to_,vo,ac,go),[],1)
def ansC (m : Nat → Int) : T17 × Int :=
 if Form tx 2 m∨Form tx 3 m then
  if st=1 then
   if op=true∧m 4=sq∧m 1=sh∧(m 0=2 → eqN 2 (fun i=>m (5 + i)) at_=true) then ((tx,st,re,sq,false,sh,at_,mo,to_,vo,ac,if m 0=2 then go++[grantM m] else go),0)
   else ((tx,st,re,sq,op,sh,at_,mo,to_,vo,ac,go),14)
  else ((tx,st,re,sq,op,sh,at_,mo,to_,vo,ac,go),11)
 else ((tx,st,re,sq,op,sh,at_,mo,to_,vo,ac,go),5)
def finC : T17 × LM × Int :=
 if st=1 then
  if op=true then ((tx,st,re,sq,op,sh,at_,mo,to_,vo,ac,go),[],8)
  else if to_=[] then ((tx,3,0,sq,false,sh,at_,mo,to_,vo,ac,go),to_.map (toMsg tx 6 1),0)
  else ((tx,2,re,sq,op,sh,at_,mo,to_,vo,ac,go),to_.map (toMsg tx 4 0),0)
 else ((tx,st,re,sq,op,sh,at_,mo,to_,vo,ac,go),[],11)
def voteC (m : Nat → Int) : T17 × LM × Int :=
 if Form tx 5 m then
  if st=2 then
   if m 1 ∈ to_ then
    if m 8=0 then ((tx,4,2,sq,false,sh,at_,mo,to_,vo,ac,go),to_.map (toMsg tx 6 0),0)
    else if (insI (m 1) vo).length < to_.length then ((tx,st,re,sq,op,sh,at_,mo,to_,insI (m 1) vo,ac,go),[],0)
    else ((tx,3,0,sq,false,sh,at_,mo,to_,insI (m 1) vo,ac,go),to_.map (toMsg tx 6 1),0)
   else ((tx,st,re,sq,op,sh,at_,mo,to_,vo,ac,go),[],10)
  else ((tx,st,re,sq,op,sh,at_,mo,to_,vo,ac,go),[],11)
 else ((tx,st,re,sq,op,sh,at_,mo,to_,vo,ac,go),[],5)
def abortC (r : Int) : T17 × LM × Int :=
 if 1≤r∧r≤5 then
  if st=3∨st=4 then ((tx,st,re,sq,op,sh,at_,mo,to_,vo,ac,go),[],15)
  else ((tx,4,r,sq,false,sh,at_,mo,to_,vo,ac,go),to_.map (toMsg tx 6 0),0)
 else ((tx,st,re,sq,op,sh,at_,mo,to_,vo,ac,go),[],1)
def ackC (m : Nat → Int) : T17 × Int :=
 if Form tx 7 m then
  if st=3∨st=4 then
   if m 1 ∈ to_ then ((tx,st,re,sq,op,sh,at_,mo,to_,vo,insI (m 1) ac,go),0)
   else ((tx,st,re,sq,op,sh,at_,mo,to_,vo,ac,go),10)
  else ((tx,st,re,sq,op,sh,at_,mo,to_,vo,ac,go),11)
 else ((tx,st,re,sq,op,sh,at_,mo,to_,vo,ac,go),5)
def againC (tx st sq : Int) (op : Bool) (sh : Int) (at_ : Nat → Int) (mo : Int) (to_ vo ac : List Int) (alive : Bool) : LM :=
 if st=1 then (if op=true then [lockM tx sq sh at_ mo] else [])++(if alive=true then to_.map (toMsg tx 8 0) else [])
 else if st=2 then (leftL to_ vo).map (toMsg tx 4 0)
 else if st=3 then (leftL to_ ac).map (toMsg tx 6 1)
 else if st=4 then (leftL to_ ac).map (toMsg tx 6 0)
 else []
end
section
variable {n : Nat} {tx st re sq : Int} {op : Bool} {sh : Int} {at_ : Nat → Int} {mo : Int} {to_ vo ac : List Int} {go : LM}
theorem task_is (h : TI n tx st re sq op sh at_ mo to_ vo ac go) (hn : n≤1000000) (s : Int) (a : Nat → Int) (m : Int) :
  task_P tx st re sq op sh at_ mo to_ vo ac go s a m∧task_F tx st re sq op sh at_ mo to_ vo ac go s a m=askC tx st re sq op sh at_ mo to_ vo ac go s a m := by
 have ho := h.own hn
 have hq := h.hsq
 unfold task_P task_F askC
 by_cases hb : (1≤s∧s≤64)∧resOk_F a=true∧(1≤m∧m≤4)
 ·have hb' : ¬ (((((decide (s < 1)) || (decide (64 < s))) || (!((resOk_F a)))) || (decide (m < 1))) || (decide (4 < m)))=true := by
   simp only [Bool.or_eq_true,decide_eq_true_eq,Bool.not_eq_true']
   rintro ((((h | h) | h) | h) | h)
   ·omega
   ·omega
   ·rw [hb.2.1] at h; cases h
   ·omega
   ·omega
  rw [if_neg hb',if_neg hb',if_pos hb]
  by_cases hs : st=1
  ·rw [if_pos hs]
   cases op with
   | true =>
    have hf : tfree_F tx st re sq true sh at_ mo to_ vo ac go=8 := by simp [tfree_F,hs]
    rw [hf,if_neg (by decide),if_neg (by decide),if_pos rfl]
    exact ⟨⟨ho,trivial⟩,rfl⟩
   | false =>
    have hf : tfree_F tx st re sq false sh at_ mo to_ vo ac go=0 := by simp [tfree_F,hs]
    rw [hf,if_pos rfl,if_pos rfl,if_neg Bool.false_ne_true]
    by_cases h6 : sq=1048576
    ·rw [if_pos h6,if_pos h6,if_pos h6]
     exact ⟨⟨ho,trivial⟩,rfl⟩
    ·rw [if_neg h6,if_neg h6,if_neg h6]
     by_cases hc : (search_F to_ s).2=true
     ·rw [if_pos hc,if_pos hc,with_in hc]
      exact ⟨⟨ho,⟨by omega,by omega⟩,search_P_of s h.to1 h.lto,trivial⟩,rfl⟩
     ·rw [if_neg hc,if_neg hc,with_out hc]
      exact ⟨⟨ho,⟨by omega,by omega⟩,search_P_of s h.to1 h.lto,clone_P_of h.lto,search_le _ _,sort_P_of h.lto,trivial⟩,rfl⟩
  ·have hf : tfree_F tx st re sq op sh at_ mo to_ vo ac go=11 := by simp [tfree_F,hs]
   rw [hf,if_neg (by decide),if_neg (by decide),if_neg hs]
   exact ⟨⟨ho,trivial⟩,rfl⟩
 ·have hb' : (((((decide (s < 1)) || (decide (64 < s))) || (!((resOk_F a)))) || (decide (m < 1))) || (decide (4 < m)))=true := by
   simp only [Bool.or_eq_true,decide_eq_true_eq,Bool.not_eq_true']
   cases hr : resOk_F a
   ·simp
   ·simp only [hr,true_and] at hb
    simp
    omega
  rw [if_pos hb',if_pos hb',if_neg hb]
  exact ⟨⟨ho,trivial⟩,rfl⟩
theorem form_P_of {m : Nat → Int} {l : List Int} (hl : l.length≤64) : tform_P tx st re sq op sh at_ mo to_ vo ac go m l := by
 unfold tform_P hasI_P
 refine ⟨by omega,?_⟩
 exact ite_intro (fun _=>trivial) (fun _=>trivial)
theorem form1 {k : Int} {m : Nat → Int} : tform_F tx st re sq op sh at_ mo to_ vo ac go m [k]=if Form tx k m then 0 else 5 := by
 unfold tform_F hasI_F
 simp only [List.mem_singleton,msgOk_0]
 by_cases h : Form tx k m
 ·obtain ⟨h1,h2,h3⟩ := id h
  rw [if_pos h,if_neg]
  simp [h1,h2,h3]
 ·rw [if_neg h,if_pos]
  simp only [Bool.or_eq_true,Bool.not_eq_true',decide_eq_false_iff_not]
  by_cases h1 : m 0=k
  ·by_cases h2 : okB m=true
   ·exact .inr fun h3=>h (And.intro h1 (And.intro h2 h3))
   ·exact .inl (.inr h2)
  ·exact .inl (.inl h1)
theorem form2 {m : Nat → Int} : tform_F tx st re sq op sh at_ mo to_ vo ac go m [2,3]=if Form tx 2 m∨Form tx 3 m then 0 else 5 := by
 unfold tform_F hasI_F
 simp only [List.mem_cons,List.not_mem_nil,or_false,msgOk_0]
 by_cases h : Form tx 2 m∨Form tx 3 m
 ·rw [if_pos h,if_neg]
  rcases h with ⟨h1,h2,h3⟩ | ⟨h1,h2,h3⟩ <;> simp [h1,h2,h3]
 ·rw [if_neg h,if_pos]
  simp only [Bool.or_eq_true,Bool.not_eq_true',decide_eq_false_iff_not]
  by_cases h1 : m 0=2∨m 0=3
  ·by_cases h2 : okB m=true
   ·exact .inr fun h3=>h (h1.imp (fun e=>And.intro e (And.intro h2 h3)) fun e=>And.intro e (And.intro h2 h3))
   ·exact .inl (.inr h2)
  ·exact .inl (.inl h1)
theorem tanswered_is (h : TI n tx st re sq op sh at_ mo to_ vo ac go) (hn : n≤1000000) (m : Nat → Int) :
  tanswered_P tx st re sq op sh at_ mo to_ vo ac go m∧tanswered_F tx st re sq op sh at_ mo to_ vo ac go m=ansC tx st re sq op sh at_ mo to_ vo ac go m := by
 have ho := h.own hn
 have hg := h.hgo
 unfold tanswered_P tanswered_F ansC
 refine ⟨⟨ho,form_P_of (by simp),?_⟩,?_⟩
 ·refine ite_intro (fun _=>ite_intro (fun _=>ite_intro (fun _=>trivial) (fun _=>ite_intro (fun _=>?_) (fun _=>trivial))) (fun _=>trivial)) (fun _=>trivial)
  exact ⟨by omega,trivial⟩
 ·rw [form2]
  by_cases hf : Form tx 2 m∨Form tx 3 m
  ·rw [if_pos hf,if_pos rfl,if_pos hf]
   by_cases hs : st=1
   ·rw [if_pos hs,if_pos hs]
    by_cases hc : op=true∧m 4=sq∧m 1=sh∧(m 0=2 → eqN 2 (fun i=>m (5 + i)) at_=true)
    ·obtain ⟨h1,h2,h3,h4⟩ := id hc
     have hc' : ¬ ((((!(op)) || (!(decide (m 4=sq)))) || (!(decide (m 1=sh)))) || ((decide (m 0=2)) && (!((eqN 2 (fun i=>m (5 + i)) at_)))))=true := by
      by_cases h5 : m 0=2
      ·simp [h1,h2,h3,h4 h5]
      ·simp [h1,h2,h3,h5]
     rw [if_neg hc',if_pos hc]
     by_cases h5 : m 0=2
     ·rw [if_pos h5,if_pos h5]; rfl
     ·rw [if_neg h5,if_neg h5]
    ·have hc' : ((((!(op)) || (!(decide (m 4=sq)))) || (!(decide (m 1=sh)))) || ((decide (m 0=2)) && (!((eqN 2 (fun i=>m (5 + i)) at_)))))=true := by
      simp only [Bool.or_eq_true,Bool.not_eq_true',decide_eq_false_iff_not,Bool.and_eq_true,decide_eq_true_eq]
      by_cases h1 : op=true
      ·by_cases h2 : m 4=sq
       ·by_cases h3 : m 1=sh
        ·right
         by_cases h4 : m 0=2∧eqN 2 (fun i=>m (5 + i)) at_=false
         ·exact h4
         ·exfalso
          refine hc ⟨h1,h2,h3,fun e=>?_⟩
          cases hq : eqN 2 (fun i=>m (5 + i)) at_
          ·exact absurd ⟨e,hq⟩ h4
          ·rfl
        ·exact .inl (.inr h3)
       ·exact .inl (.inl (.inr h2))
      ·simp only [Bool.not_eq_true] at h1; exact .inl (.inl (.inl h1))
     rw [if_pos hc',if_neg hc]
   ·rw [if_neg hs,if_neg hs]
  ·rw [if_neg hf,if_neg (by decide),if_neg hf]
theorem len0 {l : List Int} : (l.length : Int)=0 ↔ l=[] := by
 rw [← List.length_eq_zero_iff]; omega
theorem tfinish_is (h : TI n tx st re sq op sh at_ mo to_ vo ac go) (hn : n≤1000000) :
  tfinish_P tx st re sq op sh at_ mo to_ vo ac go∧tfinish_F tx st re sq op sh at_ mo to_ vo ac go=finC tx st re sq op sh at_ mo to_ vo ac go := by
 have ho := h.own hn
 unfold tfinish_P tfinish_F finC
 refine ⟨⟨ho,ite_intro (fun _=>ite_intro (fun _=>⟨tdec_P_of h.lto,trivial⟩) (fun _=>⟨tto_P_of h.lto,trivial⟩)) (fun _=>trivial)⟩,?_⟩
 by_cases hs : st=1
 ·rw [if_pos hs]
  cases op with
  | true =>
   have hf : tfree_F tx st re sq true sh at_ mo to_ vo ac go=8 := by simp [tfree_F,hs]
   rw [hf,if_neg (by decide),if_pos rfl]
  | false =>
   have hf : tfree_F tx st re sq false sh at_ mo to_ vo ac go=0 := by simp [tfree_F,hs]
   rw [hf,if_pos rfl,if_neg Bool.false_ne_true]
   by_cases ht : to_=[]
   ·rw [if_pos (len0.2 ht),if_pos ht]; rfl
   ·rw [if_neg (fun e=>ht (len0.1 e)),if_neg ht]; rfl
 ·have hf : tfree_F tx st re sq op sh at_ mo to_ vo ac go=11 := by simp [tfree_F,hs]
  rw [hf,if_neg (by decide),if_neg hs]
theorem from_P_of (h : TI n tx st re sq op sh at_ mo to_ vo ac go) {m : Nat → Int} {k : Int} {b : Bool} : tfrom_P tx st re sq op sh at_ mo to_ vo ac go m k b := by
 have := h.lto
 unfold tfrom_P
 refine ⟨form_P_of (by simp),ite_intro (fun _=>ite_intro (fun _=>⟨by unfold hasI_P; omega,ite_intro (fun _=>trivial) (fun _=>trivial)⟩) (fun _=>trivial)) (fun _=>trivial)⟩
theorem from_is {m : Nat → Int} {k : Int} {b : Bool} : tfrom_F tx st re sq op sh at_ mo to_ vo ac go m k b=if Form tx k m then if b=true then if m 1 ∈ to_ then 0 else 10 else 11 else 5 := by
 unfold tfrom_F
 rw [form1]
 by_cases hf : Form tx k m
 ·rw [if_pos hf,if_pos rfl,if_pos hf]
  simp only [hasI_F,decide_eq_true_eq]
 ·rw [if_neg hf,if_neg (by decide),if_neg hf]
theorem tvote_is (h : TI n tx st re sq op sh at_ mo to_ vo ac go) (hn : n≤1000000) (m : Nat → Int) :
  tvote_P tx st re sq op sh at_ mo to_ vo ac go m∧tvote_F tx st re sq op sh at_ mo to_ vo ac go m=voteC tx st re sq op sh at_ mo to_ vo ac go m := by
 have ho := h.own hn
 unfold tvote_P tvote_F voteC
 refine ⟨⟨ho,from_P_of h,?_⟩,?_⟩
 ·refine ite_intro (fun _=>ite_intro (fun _=>⟨tdec_P_of h.lto,trivial⟩) (fun _=>⟨search_P_of _ h.vo1 h.lvo,ite_intro (fun _=>ite_intro (fun _=>trivial) (fun _=>⟨tdec_P_of h.lto,trivial⟩)) (fun _=>⟨clone_P_of h.lvo,search_le _ _,sort_P_of h.lvo,ite_intro (fun _=>trivial) (fun _=>⟨tdec_P_of h.lto,trivial⟩)⟩)⟩)) (fun _=>trivial)
 ·rw [from_is]
  by_cases hf : Form tx 5 m
  ·rw [if_pos hf,if_pos hf]
   by_cases hs : st=2
   ·rw [if_pos (decide_eq_true hs),if_pos hs]
    by_cases hm : m 1 ∈ to_
    ·rw [if_pos hm,if_pos rfl,if_pos hm]
     by_cases h8 : m 8=0
     ·rw [if_pos h8,if_pos h8]; rfl
     ·rw [if_neg h8,if_neg h8]
      by_cases hc : (search_F vo (m 1)).2=true
      ·rw [if_pos hc,with_in hc]
       by_cases hl : vo.length < to_.length
       ·rw [if_pos (by omega),if_pos hl]
       ·rw [if_neg (by omega),if_neg hl]; rfl
      ·rw [if_neg hc,with_out hc]
       by_cases hl : (insI (m 1) vo).length < to_.length
       ·rw [if_pos (by omega),if_pos hl]
       ·rw [if_neg (by omega),if_neg hl]; rfl
    ·rw [if_neg hm,if_neg (by decide),if_neg hm]
   ·rw [if_neg (show ¬ decide (st=2)=true by simpa using hs),if_neg (show ¬ (11 : Int)=0 by decide),if_neg hs]
  ·rw [if_neg hf,if_neg (by decide),if_neg hf]
theorem tabort_is (h : TI n tx st re sq op sh at_ mo to_ vo ac go) (hn : n≤1000000) (r : Int) :
  tabort_P tx st re sq op sh at_ mo to_ vo ac go r∧tabort_F tx st re sq op sh at_ mo to_ vo ac go r=abortC tx st re sq op sh at_ mo to_ vo ac go r := by
 have ho := h.own hn
 unfold tabort_P tabort_F abortC
 refine ⟨⟨ho,ite_intro (fun _=>trivial) (fun _=>ite_intro (fun _=>trivial) (fun _=>⟨tdec_P_of h.lto,trivial⟩))⟩,?_⟩
 by_cases hr : 1≤r∧r≤5
 ·rw [if_neg (by simp; omega),if_pos hr]
  by_cases hd : st=3∨st=4
  ·rw [if_pos (tdec_iff.2 hd),if_pos hd]
  ·rw [if_neg (fun e=>hd (tdec_iff.1 e)),if_neg hd]; rfl
 ·rw [if_pos (by simp; omega),if_neg hr]
theorem tack_is (h : TI n tx st re sq op sh at_ mo to_ vo ac go) (hn : n≤1000000) (m : Nat → Int) :
  tack_P tx st re sq op sh at_ mo to_ vo ac go m∧tack_F tx st re sq op sh at_ mo to_ vo ac go m=ackC tx st re sq op sh at_ mo to_ vo ac go m := by
 have ho := h.own hn
 unfold tack_P tack_F ackC
 refine ⟨⟨ho,from_P_of h,?_⟩,?_⟩
 ·refine ite_intro (fun _=>⟨search_P_of _ h.ac1 h.lac,ite_intro (fun _=>trivial) (fun _=>⟨clone_P_of h.lac,search_le _ _,sort_P_of h.lac,trivial⟩)⟩) (fun _=>trivial)
 ·rw [from_is]
  by_cases hf : Form tx 7 m
  ·rw [if_pos hf,if_pos hf]
   by_cases hs : st=3∨st=4
   ·rw [if_pos (tdec_iff.2 hs),if_pos hs]
    by_cases hm : m 1 ∈ to_
    ·rw [if_pos hm,if_pos rfl,if_pos hm]
     by_cases hc : (search_F ac (m 1)).2=true
     ·rw [if_pos hc,with_in hc]
     ·rw [if_neg hc,with_out hc]
    ·rw [if_neg hm,if_neg (by decide),if_neg hm]
   ·rw [if_neg (fun e=>hs (tdec_iff.1 e)),if_neg (by decide),if_neg hs]
  ·rw [if_neg hf,if_neg (by decide),if_neg hf]
theorem leftL_len (l but : List Int) : (leftL l but).length≤l.length := List.length_filter_le _ _
theorem tagain_is (h : TI n tx st re sq op sh at_ mo to_ vo ac go) (b : Bool) :
  tagain_P tx st re sq op sh at_ mo to_ vo ac go b∧tagain_F tx st re sq op sh at_ mo to_ vo ac go b=againC tx st sq op sh at_ mo to_ vo ac b := by
 have h1 := h.lto
 have h2 := h.lvo
 have h3 := h.lac
 have hl := fun but=>leftL_len to_ but
 unfold tagain_P tagain_F againC
 have hv := hl vo
 have ha := hl ac
 refine ⟨?_,?_⟩
 ·refine ite_intro (fun _=>ite_intro (fun _=>⟨by omega,ite_intro (fun _=>⟨tto_P_of h1,?_,trivial⟩) (fun _=>trivial)⟩) (fun _=>ite_intro (fun _=>⟨tto_P_of h1,?_,trivial⟩) (fun _=>trivial))) (fun _=>ite_intro (fun _=>⟨⟨by omega,by omega⟩,tto_P_of (Nat.le_trans hv h1),trivial⟩) (fun _=>ite_intro (fun _=>⟨⟨by omega,by omega⟩,tdec_P_of (Nat.le_trans ha h1),trivial⟩) (fun _=>ite_intro (fun _=>⟨⟨by omega,by omega⟩,tdec_P_of (Nat.le_trans ha h1),trivial⟩) (fun _=>trivial))))
  ·simp [tto_F]; omega
  ·simp [tto_F]; omega
 ·by_cases s1 : st=1
  ·rw [if_pos s1,if_pos s1]
   cases op <;> cases b <;> simp [tto_F,tlock_F,lockM]
  ·rw [if_neg s1,if_neg s1]
   by_cases s2 : st=2
   ·rw [if_pos s2,if_pos s2]; rfl
   ·rw [if_neg s2,if_neg s2]
    by_cases s3 : st=3
    ·rw [if_pos s3,if_pos s3]
     simp [tdecision_F,tto_F,tleft_F,s3]
    ·rw [if_neg s3,if_neg s3]
     by_cases s4 : st=4
     ·rw [if_pos s4,if_pos s4]
      simp [tdecision_F,tto_F,tleft_F,s3]
     ·rw [if_neg s4,if_neg s4]
end
end Go.E
namespace Go.E
open Go
section
variable {n : Nat} {tx st re sq : Int} {op : Bool} {sh : Int} {at_ : Nat → Int} {mo : Int} {to_ vo ac : List Int} {go : LM}
theorem askC_TI (h : TI n tx st re sq op sh at_ mo to_ vo ac go) (s : Int) (a : Nat → Int) (m : Int) : TIT (n + 1) (askC tx st re sq op sh at_ mo to_ vo ac go s a m).1 := by
 have h' := h.mono (Nat.le_succ n)
 unfold askC
 by_cases hb : (1≤s∧s≤64)∧resOk_F a=true∧(1≤m∧m≤4)
 ·rw [if_pos hb]
  by_cases hs : st=1
  ·rw [if_pos hs]
   cases op with
   | true=>rw [if_pos rfl]; exact h'
   | false =>
    rw [if_neg Bool.false_ne_true]
    by_cases h6 : sq=1048576
    ·rw [if_pos h6]; exact h'
    ·rw [if_neg h6]
     subst hs
     exact h'.ask h6 hb.1 hb.2.1 hb.2.2
  ·rw [if_neg hs]; exact h'
 ·rw [if_neg hb]; exact h'
theorem ansC_TI (h : TI n tx st re sq op sh at_ mo to_ vo ac go) (m : Nat → Int) : TIT (n + 1) (ansC tx st re sq op sh at_ mo to_ vo ac go m).1 := by
 have h' := h.mono (Nat.le_succ n)
 unfold ansC
 by_cases hf : Form tx 2 m∨Form tx 3 m
 ·rw [if_pos hf]
  by_cases hs : st=1
  ·rw [if_pos hs]
   by_cases hc : op=true∧m 4=sq∧m 1=sh∧(m 0=2 → eqN 2 (fun i=>m (5 + i)) at_=true)
   ·rw [if_pos hc]
    by_cases h2 : m 0=2
    ·rw [if_pos h2]; exact (h.got _).shut
    ·rw [if_neg h2]; exact h'.shut
   ·rw [if_neg hc]; exact h'
  ·rw [if_neg hs]; exact h'
 ·rw [if_neg hf]; exact h'
theorem finC_TI (h : TI n tx st re sq op sh at_ mo to_ vo ac go) : TIT (n + 1) (finC tx st re sq op sh at_ mo to_ vo ac go).1 := by
 have h' := h.mono (Nat.le_succ n)
 unfold finC
 by_cases hs : st=1
 ·rw [if_pos hs]
  cases op with
  | true=>rw [if_pos rfl]; exact h'
  | false =>
   rw [if_neg Bool.false_ne_true]
   by_cases ht : to_=[]
   ·rw [if_pos ht]
    exact h'.commit (by rw [h.vo5 hs,ht])
   ·rw [if_neg ht]
    subst hs
    exact h'.prep (fun e=>ht (len0.1 e))
 ·rw [if_neg hs]; exact h'
theorem voteC_TI (h : TI n tx st re sq op sh at_ mo to_ vo ac go) (m : Nat → Int) : TIT (n + 1) (voteC tx st re sq op sh at_ mo to_ vo ac go m).1 := by
 have h' := h.mono (Nat.le_succ n)
 unfold voteC
 by_cases hf : Form tx 5 m
 ·rw [if_pos hf]
  by_cases hs : st=2
  ·rw [if_pos hs]
   by_cases hm : m 1 ∈ to_
   ·rw [if_pos hm]
    by_cases h8 : m 8=0
    ·rw [if_pos h8]; exact h'.abort (r := 2) (by omega)
    ·rw [if_neg h8]
     subst hs
     by_cases hl : (insI (m 1) vo).length < to_.length
     ·rw [if_pos hl]; exact h'.vote hm hl
     ·rw [if_neg hl]; exact h'.votes hm hl
   ·rw [if_neg hm]; exact h'
  ·rw [if_neg hs]; exact h'
 ·rw [if_neg hf]; exact h'
theorem abortC_TI (h : TI n tx st re sq op sh at_ mo to_ vo ac go) (r : Int) : TIT (n + 1) (abortC tx st re sq op sh at_ mo to_ vo ac go r).1 := by
 have h' := h.mono (Nat.le_succ n)
 unfold abortC
 by_cases hr : 1≤r∧r≤5
 ·rw [if_pos hr]
  by_cases hd : st=3∨st=4
  ·rw [if_pos hd]; exact h'
  ·rw [if_neg hd]; exact h'.abort hr
 ·rw [if_neg hr]; exact h'
theorem ackC_TI (h : TI n tx st re sq op sh at_ mo to_ vo ac go) (m : Nat → Int) : TIT (n + 1) (ackC tx st re sq op sh at_ mo to_ vo ac go m).1 := by
 have h' := h.mono (Nat.le_succ n)
 unfold ackC
 by_cases hf : Form tx 7 m
 ·rw [if_pos hf]
  by_cases hd : st=3∨st=4
  ·rw [if_pos hd]
   by_cases hm : m 1 ∈ to_
   ·rw [if_pos hm]; exact h'.ack hd hm
   ·rw [if_neg hm]; exact h'
  ·rw [if_neg hd]; exact h'
 ·rw [if_neg hf]; exact h'
theorem new_TI {t : Int} (h : 1≤t∧t≤1048576) : TI 0 t 1 0 0 false 0 (fun _=>0) 0 [] [] [] [] where
 htx := h
 hst := by omega
 hre := by omega
 hre4 := by omega
 hsq := by omega
 to1 := .nil
 to2 := fun s hs=>by simp at hs
 vo1 := .nil
 vo2 := fun s hs=>by simp at hs
 ac1 := .nil
 ac2 := fun s hs=>by simp at hs
 hgo := Nat.le_refl 0
 hop := fun e=>by cases e
 vo3 := fun e=>by omega
 vo4 := fun e=>by omega
 vo5 := fun _=>rfl
 ac3 := fun _=>rfl
theorem tnew_is {t : Int} : tnew_F t=if 1≤t∧t≤1048576 then ((t,1,0,0,false,0,(fun _=>0),0,[],[],[],[]),0) else ((0,0,0,0,false,0,(fun _=>0),0,[],[],[],[]),1) := by
 unfold tnew_F
 by_cases h : 1≤t∧t≤1048576
 ·rw [if_neg (by simp; omega),if_pos h]
 ·rw [if_pos (by simp; omega),if_neg h]
end
end Go.E
namespace Go.E
open Go
def kset_S (o0c : NI) (za : NI) (zf : Int) (zd : Int) (zc : UM) (zb : LM) (t1Tx : Int) (t1State : Int) (t1Reason : Int) (t1Seq : Int) (t1Open : Bool) (t1Shard : Int) (t1At : NI) (t1Mode : Int) (t1Touched : (List Int)) (t1Votes : (List Int)) (t1Acks : (List Int)) (t1Got : LM) (r : UM × LM × NI) : Prop :=
 if (mget ieq zc t1Tx (0,0,0,0,false,0,(fun _=>0),0,[],[],[],[])).2.1=t1State then
  r=((mset ieq zc t1Tx (t1Tx,t1State,t1Reason,t1Seq,t1Open,t1Shard,t1At,t1Mode,t1Touched,t1Votes,t1Acks,t1Got),zb,za))
 else
  if t1State=2 then
   ((zb.length + 1) * 56≤140737488355328)∧(
   r=((mset ieq zc t1Tx (t1Tx,t1State,t1Reason,t1Seq,t1Open,t1Shard,t1At,t1Mode,t1Touched,t1Votes,t1Acks,t1Got),(zb++[(updI (updI (fun _=>0) 0 5) 2 t1Tx)]),za)))
  else
   if t1State=4 then
    ((zb.length + 1) * 56≤140737488355328)∧(
    (cend_P za t1Tx)∧(
    r=((mset ieq zc t1Tx (t1Tx,t1State,t1Reason,t1Seq,t1Open,t1Shard,t1At,t1Mode,t1Touched,t1Votes,t1Acks,t1Got),(zb++[(updI (updI (updI (fun _=>0) 0 7) 2 t1Tx) 6 t1Reason)]),(cend_F za t1Tx).2))))
   else
    if t1State=3 then
     ((zb.length + 1) * 56≤140737488355328)∧(
     (cend_P za t1Tx)∧(
     r=((mset ieq zc t1Tx (t1Tx,t1State,t1Reason,t1Seq,t1Open,t1Shard,t1At,t1Mode,t1Touched,t1Votes,t1Acks,t1Got),(zb++[(updI (updI (fun _=>0) 0 6) 2 t1Tx)]),(cend_F za t1Tx).2))))
    else
     r=((mset ieq zc t1Tx (t1Tx,t1State,t1Reason,t1Seq,t1Open,t1Shard,t1At,t1Mode,t1Touched,t1Votes,t1Acks,t1Got),zb,za))
def kset_F (o0c : NI) (za : NI) (zf : Int) (zd : Int) (zc : UM) (zb : LM) (t1Tx : Int) (t1State : Int) (t1Reason : Int) (t1Seq : Int) (t1Open : Bool) (t1Shard : Int) (t1At : NI) (t1Mode : Int) (t1Touched : (List Int)) (t1Votes : (List Int)) (t1Acks : (List Int)) (t1Got : LM) : UM × LM × NI :=
 if (mget ieq zc t1Tx (0,0,0,0,false,0,(fun _=>0),0,[],[],[],[])).2.1=t1State then
  (mset ieq zc t1Tx (t1Tx,t1State,t1Reason,t1Seq,t1Open,t1Shard,t1At,t1Mode,t1Touched,t1Votes,t1Acks,t1Got),zb,za)
 else
  if t1State=2 then
   (mset ieq zc t1Tx (t1Tx,t1State,t1Reason,t1Seq,t1Open,t1Shard,t1At,t1Mode,t1Touched,t1Votes,t1Acks,t1Got),(zb++[(updI (updI (fun _=>0) 0 5) 2 t1Tx)]),za)
  else
   if t1State=4 then
    (mset ieq zc t1Tx (t1Tx,t1State,t1Reason,t1Seq,t1Open,t1Shard,t1At,t1Mode,t1Touched,t1Votes,t1Acks,t1Got),(zb++[(updI (updI (updI (fun _=>0) 0 7) 2 t1Tx) 6 t1Reason)]),(cend_F za t1Tx).2)
   else
    if t1State=3 then
     (mset ieq zc t1Tx (t1Tx,t1State,t1Reason,t1Seq,t1Open,t1Shard,t1At,t1Mode,t1Touched,t1Votes,t1Acks,t1Got),(zb++[(updI (updI (fun _=>0) 0 6) 2 t1Tx)]),(cend_F za t1Tx).2)
    else
     (mset ieq zc t1Tx (t1Tx,t1State,t1Reason,t1Seq,t1Open,t1Shard,t1At,t1Mode,t1Touched,t1Votes,t1Acks,t1Got),zb,za)
def kset_P (o0c : NI) (za : NI) (zf : Int) (zd : Int) (zc : UM) (zb : LM) (t1Tx : Int) (t1State : Int) (t1Reason : Int) (t1Seq : Int) (t1Open : Bool) (t1Shard : Int) (t1At : NI) (t1Mode : Int) (t1Touched : (List Int)) (t1Votes : (List Int)) (t1Acks : (List Int)) (t1Got : LM) : Prop :=
 if (mget ieq zc t1Tx (0,0,0,0,false,0,(fun _=>0),0,[],[],[],[])).2.1=t1State then
  True
 else
  if t1State=2 then
   ((zb.length + 1) * 56≤140737488355328)∧(
   True)
  else
   if t1State=4 then
    ((zb.length + 1) * 56≤140737488355328)∧(
    (cend_P za t1Tx)∧(
    True))
   else
    if t1State=3 then
     ((zb.length + 1) * 56≤140737488355328)∧(
     (cend_P za t1Tx)∧(
     True))
    else
     True
theorem kset_ok (o0c : NI) (za : NI) (zf : Int) (zd : Int) (zc : UM) (zb : LM) (t1Tx : Int) (t1State : Int) (t1Reason : Int) (t1Seq : Int) (t1Open : Bool) (t1Shard : Int) (t1At : NI) (t1Mode : Int) (t1Touched : (List Int)) (t1Votes : (List Int)) (t1Acks : (List Int)) (t1Got : LM) (hP : kset_P o0c za zf zd zc zb t1Tx t1State t1Reason t1Seq t1Open t1Shard t1At t1Mode t1Touched t1Votes t1Acks t1Got) : kset_S o0c za zf zd zc zb t1Tx t1State t1Reason t1Seq t1Open t1Shard t1At t1Mode t1Touched t1Votes t1Acks t1Got (kset_F o0c za zf zd zc zb t1Tx t1State t1Reason t1Seq t1Open t1Shard t1At t1Mode t1Touched t1Votes t1Acks t1Got) := by
 obtain ⟨r,hr⟩ : ∃ r,r=kset_F o0c za zf zd zc zb t1Tx t1State t1Reason t1Seq t1Open t1Shard t1At t1Mode t1Touched t1Votes t1Acks t1Got := ⟨_,rfl⟩
 rw [← hr]
 unfold kset_F at hr
 unfold kset_S
 unfold kset_P at hP
 by_cases hp67 : (mget ieq zc t1Tx (0,0,0,0,false,0,(fun _=>0),0,[],[],[],[])).2.1=t1State
 ·rw [if_pos hp67] at hr hP ⊢
  exact hr
 ·rw [if_neg hp67] at hr hP ⊢
  by_cases hp68 : t1State=2
  ·rw [if_pos hp68] at hr hP ⊢
   obtain ⟨hq0,hP⟩ := hP
   refine ⟨hq0,?_⟩
   exact hr
  ·rw [if_neg hp68] at hr hP ⊢
   by_cases hp69 : t1State=4
   ·rw [if_pos hp69] at hr hP ⊢
    obtain ⟨hq0,hP⟩ := hP
    refine ⟨hq0,?_⟩
    obtain ⟨hq0,hP⟩ := hP
    refine ⟨hq0,?_⟩
    exact hr
   ·rw [if_neg hp69] at hr hP ⊢
    by_cases hp70 : t1State=3
    ·rw [if_pos hp70] at hr hP ⊢
     obtain ⟨hq0,hP⟩ := hP
     refine ⟨hq0,?_⟩
     obtain ⟨hq0,hP⟩ := hP
     refine ⟨hq0,?_⟩
     exact hr
    ·rw [if_neg hp70] at hr hP ⊢
     exact hr
def call_S (o0c : NI) (za : NI) (zf : Int) (zd : Int) (zc : UM) (zb : LM) (r : (List Int)) : Prop :=
 (skeysP zc)∧(
 r=((skeys zc)))
def call_F (o0c : NI) (za : NI) (zf : Int) (zd : Int) (zc : UM) (zb : LM) : (List Int) :=
 (skeys zc)
def call_P (o0c : NI) (za : NI) (zf : Int) (zd : Int) (zc : UM) (zb : LM) : Prop :=
 (skeysP zc)∧(
 True)
theorem call_ok (o0c : NI) (za : NI) (zf : Int) (zd : Int) (zc : UM) (zb : LM) (hP : call_P o0c za zf zd zc zb) : call_S o0c za zf zd zc zb (call_F o0c za zf zd zc zb) := by
 obtain ⟨r,hr⟩ : ∃ r,r=call_F o0c za zf zd zc zb := ⟨_,rfl⟩
 rw [← hr]
 unfold call_F at hr
 unfold call_S
 unfold call_P at hP
 obtain ⟨hq0,hP⟩ := hP
 refine ⟨hq0,?_⟩
 exact hr
def kalive_S (o0c : NI) (za : NI) (zf : Int) (zd : Int) (zc : UM) (zb : LM) (id1 : Int) (r : Int × NI) : Prop :=
 (calive_P za id1)∧(
 if ((calive_F za id1))=true then
  r=((0,za))
 else
  (cbegin_P za id1 1048576)∧(
  (errIs_P ((cbegin_F za id1 1048576).1) 11)∧(
  if ((errIs_F ((cbegin_F za id1 1048576).1) 11))=true then
   r=(((cbegin_F za id1 1048576).1,(cbegin_F za id1 1048576).2))
  else
   r=((10,(cbegin_F za id1 1048576).2)))))
def kalive_F (o0c : NI) (za : NI) (zf : Int) (zd : Int) (zc : UM) (zb : LM) (id1 : Int) : Int × NI :=
 if ((calive_F za id1))=true then
  (0,za)
 else
  if ((errIs_F ((cbegin_F za id1 1048576).1) 11))=true then
   ((cbegin_F za id1 1048576).1,(cbegin_F za id1 1048576).2)
  else
   (10,(cbegin_F za id1 1048576).2)
def kalive_P (o0c : NI) (za : NI) (zf : Int) (zd : Int) (zc : UM) (zb : LM) (id1 : Int) : Prop :=
 (calive_P za id1)∧(
 if ((calive_F za id1))=true then
  True
 else
  (cbegin_P za id1 1048576)∧(
  (errIs_P ((cbegin_F za id1 1048576).1) 11)∧(
  if ((errIs_F ((cbegin_F za id1 1048576).1) 11))=true then
   True
  else
   True)))
theorem kalive_ok (o0c : NI) (za : NI) (zf : Int) (zd : Int) (zc : UM) (zb : LM) (id1 : Int) (hP : kalive_P o0c za zf zd zc zb id1) : kalive_S o0c za zf zd zc zb id1 (kalive_F o0c za zf zd zc zb id1) := by
 obtain ⟨r,hr⟩ : ∃ r,r=kalive_F o0c za zf zd zc zb id1 := ⟨_,rfl⟩
 rw [← hr]
 unfold kalive_F at hr
 unfold kalive_S
 unfold kalive_P at hP
 obtain ⟨hq0,hP⟩ := hP
 refine ⟨hq0,?_⟩
 by_cases hp71 : ((calive_F za id1))=true
 ·rw [if_pos hp71] at hr hP ⊢
  exact hr
 ·rw [if_neg hp71] at hr hP ⊢
  obtain ⟨hq0,hP⟩ := hP
  refine ⟨hq0,?_⟩
  obtain ⟨hq0,hP⟩ := hP
  refine ⟨hq0,?_⟩
  by_cases hp72 : ((errIs_F ((cbegin_F za id1 1048576).1) 11))=true
  ·rw [if_pos hp72] at hr hP ⊢
   exact hr
  ·rw [if_neg hp72] at hr hP ⊢
   exact hr
def kbegin_S (o0c : NI) (za : NI) (zf : Int) (zd : Int) (zc : UM) (zb : LM) (id1 : Int) (r : Int × Int × Int × UM × LM × NI) : Prop :=
 (kalive_P o0c za zf zd zc zb id1)∧(
 if (kalive_F o0c za zf zd zc zb id1).1=0 then
  (cnow_P ((kalive_F o0c za zf zd zc zb id1).2) id1)∧(
  if (cnow_F ((kalive_F o0c za zf zd zc zb id1).2) id1).2=0 then
   r=((0,8,zd,zc,zb,(kalive_F o0c za zf zd zc zb id1).2))
  else
   (inI64 (zd + 1))∧(
   if (tnew_F (zd + 1)).2=0 then
    (inI64 (zd + 1))∧(
    (cbegin_P ((kalive_F o0c za zf zd zc zb id1).2) id1 (((tnew_F (zd + 1)).1).1))∧(
    ((zb.length + 1) * 56≤140737488355328)∧(
    r=((((tnew_F (zd + 1)).1).1,0,zd + 1,mset ieq zc (((tnew_F (zd + 1)).1).1) (((tnew_F (zd + 1)).1).1,((tnew_F (zd + 1)).1).2.1,((tnew_F (zd + 1)).1).2.2.1,((tnew_F (zd + 1)).1).2.2.2.1,((tnew_F (zd + 1)).1).2.2.2.2.1,((tnew_F (zd + 1)).1).2.2.2.2.2.1,((tnew_F (zd + 1)).1).2.2.2.2.2.2.1,((tnew_F (zd + 1)).1).2.2.2.2.2.2.2.1,((tnew_F (zd + 1)).1).2.2.2.2.2.2.2.2.1,((tnew_F (zd + 1)).1).2.2.2.2.2.2.2.2.2.1,((tnew_F (zd + 1)).1).2.2.2.2.2.2.2.2.2.2.1,((tnew_F (zd + 1)).1).2.2.2.2.2.2.2.2.2.2.2),(zb++[(updI (updI (updI (fun _=>0) 0 1) 1 id1) 2 (((tnew_F (zd + 1)).1).1))]),(cbegin_F ((kalive_F o0c za zf zd zc zb id1).2) id1 (((tnew_F (zd + 1)).1).1)).2)))))
   else
    r=((0,6,zd,zc,zb,(kalive_F o0c za zf zd zc zb id1).2))))
 else
  r=((0,(kalive_F o0c za zf zd zc zb id1).1,zd,zc,zb,(kalive_F o0c za zf zd zc zb id1).2)))
def kbegin_F (o0c : NI) (za : NI) (zf : Int) (zd : Int) (zc : UM) (zb : LM) (id1 : Int) : Int × Int × Int × UM × LM × NI :=
 if (kalive_F o0c za zf zd zc zb id1).1=0 then
  if (cnow_F ((kalive_F o0c za zf zd zc zb id1).2) id1).2=0 then
   (0,8,zd,zc,zb,(kalive_F o0c za zf zd zc zb id1).2)
  else
   if (tnew_F (zd + 1)).2=0 then
    (((tnew_F (zd + 1)).1).1,0,zd + 1,mset ieq zc (((tnew_F (zd + 1)).1).1) (((tnew_F (zd + 1)).1).1,((tnew_F (zd + 1)).1).2.1,((tnew_F (zd + 1)).1).2.2.1,((tnew_F (zd + 1)).1).2.2.2.1,((tnew_F (zd + 1)).1).2.2.2.2.1,((tnew_F (zd + 1)).1).2.2.2.2.2.1,((tnew_F (zd + 1)).1).2.2.2.2.2.2.1,((tnew_F (zd + 1)).1).2.2.2.2.2.2.2.1,((tnew_F (zd + 1)).1).2.2.2.2.2.2.2.2.1,((tnew_F (zd + 1)).1).2.2.2.2.2.2.2.2.2.1,((tnew_F (zd + 1)).1).2.2.2.2.2.2.2.2.2.2.1,((tnew_F (zd + 1)).1).2.2.2.2.2.2.2.2.2.2.2),(zb++[(updI (updI (updI (fun _=>0) 0 1) 1 id1) 2 (((tnew_F (zd + 1)).1).1))]),(cbegin_F ((kalive_F o0c za zf zd zc zb id1).2) id1 (((tnew_F (zd + 1)).1).1)).2)
   else
    (0,6,zd,zc,zb,(kalive_F o0c za zf zd zc zb id1).2)
 else
  (0,(kalive_F o0c za zf zd zc zb id1).1,zd,zc,zb,(kalive_F o0c za zf zd zc zb id1).2)
def kbegin_P (o0c : NI) (za : NI) (zf : Int) (zd : Int) (zc : UM) (zb : LM) (id1 : Int) : Prop :=
 (kalive_P o0c za zf zd zc zb id1)∧(
 if (kalive_F o0c za zf zd zc zb id1).1=0 then
  (cnow_P ((kalive_F o0c za zf zd zc zb id1).2) id1)∧(
  if (cnow_F ((kalive_F o0c za zf zd zc zb id1).2) id1).2=0 then
   True
  else
   (inI64 (zd + 1))∧(
   if (tnew_F (zd + 1)).2=0 then
    (inI64 (zd + 1))∧(
    (cbegin_P ((kalive_F o0c za zf zd zc zb id1).2) id1 (((tnew_F (zd + 1)).1).1))∧(
    ((zb.length + 1) * 56≤140737488355328)∧(
    True)))
   else
    True))
 else
  True)
theorem kbegin_ok (o0c : NI) (za : NI) (zf : Int) (zd : Int) (zc : UM) (zb : LM) (id1 : Int) (hP : kbegin_P o0c za zf zd zc zb id1) : kbegin_S o0c za zf zd zc zb id1 (kbegin_F o0c za zf zd zc zb id1) := by
 obtain ⟨r,hr⟩ : ∃ r,r=kbegin_F o0c za zf zd zc zb id1 := ⟨_,rfl⟩
 rw [← hr]
 unfold kbegin_F at hr
 unfold kbegin_S
 unfold kbegin_P at hP
 obtain ⟨hq0,hP⟩ := hP
 refine ⟨hq0,?_⟩
 by_cases hp73 : (kalive_F o0c za zf zd zc zb id1).1=0
 ·rw [if_pos hp73] at hr hP ⊢
  obtain ⟨hq0,hP⟩ := hP
  refine ⟨hq0,?_⟩
  by_cases hp74 : (cnow_F ((kalive_F o0c za zf zd zc zb id1).2) id1).2=0
  ·rw [if_pos hp74] at hr hP ⊢
   exact hr
  ·rw [if_neg hp74] at hr hP ⊢
   obtain ⟨hq0,hP⟩ := hP
   refine ⟨hq0,?_⟩
   by_cases hp75 : (tnew_F (zd + 1)).2=0
   ·rw [if_pos hp75] at hr hP ⊢
    obtain ⟨hq0,hP⟩ := hP
    refine ⟨hq0,?_⟩
    obtain ⟨hq0,hP⟩ := hP
    refine ⟨hq0,?_⟩
    obtain ⟨hq0,hP⟩ := hP
    refine ⟨hq0,?_⟩
    exact hr
   ·rw [if_neg hp75] at hr hP ⊢
    exact hr
 ·rw [if_neg hp73] at hr hP ⊢
  exact hr
def klock_S (o0c : NI) (za : NI) (zf : Int) (zd : Int) (zc : UM) (zb : LM) (id1 : Int) (at2 : NI) (m3 : Int) (r : LM × Int × UM × LM × NI) : Prop :=
 (kalive_P o0c za zf zd zc zb id1)∧(
 if (kalive_F o0c za zf zd zc zb id1).1=0 then
  (cnow_P ((kalive_F o0c za zf zd zc zb id1).2) id1)∧(
  if (cnow_F ((kalive_F o0c za zf zd zc zb id1).2) id1).2=0 then
   ∃ tn9 : UT,tn9=mget ieq zc ((cnow_F ((kalive_F o0c za zf zd zc zb id1).2) id1).1) (0,0,0,0,false,0,(fun _=>0),0,[],[],[],[])∧(
   (resShard_P at2 (o0c 0))∧(
   if (resShard_F at2 (o0c 0)).2=0 then
    (task_P ((tn9).1) ((tn9).2.1) ((tn9).2.2.1) ((tn9).2.2.2.1) ((tn9).2.2.2.2.1) ((tn9).2.2.2.2.2.1) ((tn9).2.2.2.2.2.2.1) ((tn9).2.2.2.2.2.2.2.1) ((tn9).2.2.2.2.2.2.2.2.1) ((tn9).2.2.2.2.2.2.2.2.2.1) ((tn9).2.2.2.2.2.2.2.2.2.2.1) ((tn9).2.2.2.2.2.2.2.2.2.2.2) ((resShard_F at2 (o0c 0)).1) at2 m3)∧(
    ∃ zg : UT × LM × Int,zg=(task_F ((tn9).1) ((tn9).2.1) ((tn9).2.2.1) ((tn9).2.2.2.1) ((tn9).2.2.2.2.1) ((tn9).2.2.2.2.2.1) ((tn9).2.2.2.2.2.2.1) ((tn9).2.2.2.2.2.2.2.1) ((tn9).2.2.2.2.2.2.2.2.1) ((tn9).2.2.2.2.2.2.2.2.2.1) ((tn9).2.2.2.2.2.2.2.2.2.2.1) ((tn9).2.2.2.2.2.2.2.2.2.2.2) ((resShard_F at2 (o0c 0)).1) at2 m3)∧(
    if zg.2.2=0 then
     ((zb.length + 1) * 56≤140737488355328)∧(
     (kset_P o0c ((kalive_F o0c za zf zd zc zb id1).2) zf zd zc (zb++[(updI (updRI (updI (updI (fun _=>0) 0 2) 2 zg.1.1) 3 2 at2) 5 m3)]) zg.1.1 zg.1.2.1 zg.1.2.2.1 zg.1.2.2.2.1 zg.1.2.2.2.2.1 zg.1.2.2.2.2.2.1 zg.1.2.2.2.2.2.2.1 zg.1.2.2.2.2.2.2.2.1 zg.1.2.2.2.2.2.2.2.2.1 zg.1.2.2.2.2.2.2.2.2.2.1 zg.1.2.2.2.2.2.2.2.2.2.2.1 zg.1.2.2.2.2.2.2.2.2.2.2.2)∧(
     r=((zg.2.1,0,(kset_F o0c ((kalive_F o0c za zf zd zc zb id1).2) zf zd zc (zb++[(updI (updRI (updI (updI (fun _=>0) 0 2) 2 zg.1.1) 3 2 at2) 5 m3)]) zg.1.1 zg.1.2.1 zg.1.2.2.1 zg.1.2.2.2.1 zg.1.2.2.2.2.1 zg.1.2.2.2.2.2.1 zg.1.2.2.2.2.2.2.1 zg.1.2.2.2.2.2.2.2.1 zg.1.2.2.2.2.2.2.2.2.1 zg.1.2.2.2.2.2.2.2.2.2.1 zg.1.2.2.2.2.2.2.2.2.2.2.1 zg.1.2.2.2.2.2.2.2.2.2.2.2).1,(kset_F o0c ((kalive_F o0c za zf zd zc zb id1).2) zf zd zc (zb++[(updI (updRI (updI (updI (fun _=>0) 0 2) 2 zg.1.1) 3 2 at2) 5 m3)]) zg.1.1 zg.1.2.1 zg.1.2.2.1 zg.1.2.2.2.1 zg.1.2.2.2.2.1 zg.1.2.2.2.2.2.1 zg.1.2.2.2.2.2.2.1 zg.1.2.2.2.2.2.2.2.1 zg.1.2.2.2.2.2.2.2.2.1 zg.1.2.2.2.2.2.2.2.2.2.1 zg.1.2.2.2.2.2.2.2.2.2.2.1 zg.1.2.2.2.2.2.2.2.2.2.2.2).2.1,(kset_F o0c ((kalive_F o0c za zf zd zc zb id1).2) zf zd zc (zb++[(updI (updRI (updI (updI (fun _=>0) 0 2) 2 zg.1.1) 3 2 at2) 5 m3)]) zg.1.1 zg.1.2.1 zg.1.2.2.1 zg.1.2.2.2.1 zg.1.2.2.2.2.1 zg.1.2.2.2.2.2.1 zg.1.2.2.2.2.2.2.1 zg.1.2.2.2.2.2.2.2.1 zg.1.2.2.2.2.2.2.2.2.1 zg.1.2.2.2.2.2.2.2.2.2.1 zg.1.2.2.2.2.2.2.2.2.2.2.1 zg.1.2.2.2.2.2.2.2.2.2.2.2).2.2))))
    else
     r=(([],zg.2.2,zc,zb,(kalive_F o0c za zf zd zc zb id1).2))))
   else
    r=(([],1,zc,zb,(kalive_F o0c za zf zd zc zb id1).2))))
  else
   r=(([],(cnow_F ((kalive_F o0c za zf zd zc zb id1).2) id1).2,zc,zb,(kalive_F o0c za zf zd zc zb id1).2)))
 else
  r=(([],(kalive_F o0c za zf zd zc zb id1).1,zc,zb,(kalive_F o0c za zf zd zc zb id1).2)))
def klock_F (o0c : NI) (za : NI) (zf : Int) (zd : Int) (zc : UM) (zb : LM) (id1 : Int) (at2 : NI) (m3 : Int) : LM × Int × UM × LM × NI :=
 if (kalive_F o0c za zf zd zc zb id1).1=0 then
  if (cnow_F ((kalive_F o0c za zf zd zc zb id1).2) id1).2=0 then
   (fun (tn9 : UT) =>
    if (resShard_F at2 (o0c 0)).2=0 then
     (fun (zg : UT × LM × Int) =>
      if zg.2.2=0 then
       (zg.2.1,0,(kset_F o0c ((kalive_F o0c za zf zd zc zb id1).2) zf zd zc (zb++[(updI (updRI (updI (updI (fun _=>0) 0 2) 2 zg.1.1) 3 2 at2) 5 m3)]) zg.1.1 zg.1.2.1 zg.1.2.2.1 zg.1.2.2.2.1 zg.1.2.2.2.2.1 zg.1.2.2.2.2.2.1 zg.1.2.2.2.2.2.2.1 zg.1.2.2.2.2.2.2.2.1 zg.1.2.2.2.2.2.2.2.2.1 zg.1.2.2.2.2.2.2.2.2.2.1 zg.1.2.2.2.2.2.2.2.2.2.2.1 zg.1.2.2.2.2.2.2.2.2.2.2.2).1,(kset_F o0c ((kalive_F o0c za zf zd zc zb id1).2) zf zd zc (zb++[(updI (updRI (updI (updI (fun _=>0) 0 2) 2 zg.1.1) 3 2 at2) 5 m3)]) zg.1.1 zg.1.2.1 zg.1.2.2.1 zg.1.2.2.2.1 zg.1.2.2.2.2.1 zg.1.2.2.2.2.2.1 zg.1.2.2.2.2.2.2.1 zg.1.2.2.2.2.2.2.2.1 zg.1.2.2.2.2.2.2.2.2.1 zg.1.2.2.2.2.2.2.2.2.2.1 zg.1.2.2.2.2.2.2.2.2.2.2.1 zg.1.2.2.2.2.2.2.2.2.2.2.2).2.1,(kset_F o0c ((kalive_F o0c za zf zd zc zb id1).2) zf zd zc (zb++[(updI (updRI (updI (updI (fun _=>0) 0 2) 2 zg.1.1) 3 2 at2) 5 m3)]) zg.1.1 zg.1.2.1 zg.1.2.2.1 zg.1.2.2.2.1 zg.1.2.2.2.2.1 zg.1.2.2.2.2.2.1 zg.1.2.2.2.2.2.2.1 zg.1.2.2.2.2.2.2.2.1 zg.1.2.2.2.2.2.2.2.2.1 zg.1.2.2.2.2.2.2.2.2.2.1 zg.1.2.2.2.2.2.2.2.2.2.2.1 zg.1.2.2.2.2.2.2.2.2.2.2.2).2.2)
      else
       ([],zg.2.2,zc,zb,(kalive_F o0c za zf zd zc zb id1).2)) ((task_F ((tn9).1) ((tn9).2.1) ((tn9).2.2.1) ((tn9).2.2.2.1) ((tn9).2.2.2.2.1) ((tn9).2.2.2.2.2.1) ((tn9).2.2.2.2.2.2.1) ((tn9).2.2.2.2.2.2.2.1) ((tn9).2.2.2.2.2.2.2.2.1) ((tn9).2.2.2.2.2.2.2.2.2.1) ((tn9).2.2.2.2.2.2.2.2.2.2.1) ((tn9).2.2.2.2.2.2.2.2.2.2.2) ((resShard_F at2 (o0c 0)).1) at2 m3))
    else
     ([],1,zc,zb,(kalive_F o0c za zf zd zc zb id1).2)) (mget ieq zc ((cnow_F ((kalive_F o0c za zf zd zc zb id1).2) id1).1) (0,0,0,0,false,0,(fun _=>0),0,[],[],[],[]))
  else
   ([],(cnow_F ((kalive_F o0c za zf zd zc zb id1).2) id1).2,zc,zb,(kalive_F o0c za zf zd zc zb id1).2)
 else
  ([],(kalive_F o0c za zf zd zc zb id1).1,zc,zb,(kalive_F o0c za zf zd zc zb id1).2)
def klock_P (o0c : NI) (za : NI) (zf : Int) (zd : Int) (zc : UM) (zb : LM) (id1 : Int) (at2 : NI) (m3 : Int) : Prop :=
 (kalive_P o0c za zf zd zc zb id1)∧(
 if (kalive_F o0c za zf zd zc zb id1).1=0 then
  (cnow_P ((kalive_F o0c za zf zd zc zb id1).2) id1)∧(
  if (cnow_F ((kalive_F o0c za zf zd zc zb id1).2) id1).2=0 then
   (fun (tn9 : UT) =>
    (resShard_P at2 (o0c 0))∧(
    if (resShard_F at2 (o0c 0)).2=0 then
     (task_P ((tn9).1) ((tn9).2.1) ((tn9).2.2.1) ((tn9).2.2.2.1) ((tn9).2.2.2.2.1) ((tn9).2.2.2.2.2.1) ((tn9).2.2.2.2.2.2.1) ((tn9).2.2.2.2.2.2.2.1) ((tn9).2.2.2.2.2.2.2.2.1) ((tn9).2.2.2.2.2.2.2.2.2.1) ((tn9).2.2.2.2.2.2.2.2.2.2.1) ((tn9).2.2.2.2.2.2.2.2.2.2.2) ((resShard_F at2 (o0c 0)).1) at2 m3)∧(
     (fun (zg : UT × LM × Int) =>
      if zg.2.2=0 then
       ((zb.length + 1) * 56≤140737488355328)∧(
       (kset_P o0c ((kalive_F o0c za zf zd zc zb id1).2) zf zd zc (zb++[(updI (updRI (updI (updI (fun _=>0) 0 2) 2 zg.1.1) 3 2 at2) 5 m3)]) zg.1.1 zg.1.2.1 zg.1.2.2.1 zg.1.2.2.2.1 zg.1.2.2.2.2.1 zg.1.2.2.2.2.2.1 zg.1.2.2.2.2.2.2.1 zg.1.2.2.2.2.2.2.2.1 zg.1.2.2.2.2.2.2.2.2.1 zg.1.2.2.2.2.2.2.2.2.2.1 zg.1.2.2.2.2.2.2.2.2.2.2.1 zg.1.2.2.2.2.2.2.2.2.2.2.2)∧(
       True))
      else
       True) ((task_F ((tn9).1) ((tn9).2.1) ((tn9).2.2.1) ((tn9).2.2.2.1) ((tn9).2.2.2.2.1) ((tn9).2.2.2.2.2.1) ((tn9).2.2.2.2.2.2.1) ((tn9).2.2.2.2.2.2.2.1) ((tn9).2.2.2.2.2.2.2.2.1) ((tn9).2.2.2.2.2.2.2.2.2.1) ((tn9).2.2.2.2.2.2.2.2.2.2.1) ((tn9).2.2.2.2.2.2.2.2.2.2.2) ((resShard_F at2 (o0c 0)).1) at2 m3)))
    else
     True)) (mget ieq zc ((cnow_F ((kalive_F o0c za zf zd zc zb id1).2) id1).1) (0,0,0,0,false,0,(fun _=>0),0,[],[],[],[]))
  else
   True)
 else
  True)
theorem klock_ok (o0c : NI) (za : NI) (zf : Int) (zd : Int) (zc : UM) (zb : LM) (id1 : Int) (at2 : NI) (m3 : Int) (hP : klock_P o0c za zf zd zc zb id1 at2 m3) : klock_S o0c za zf zd zc zb id1 at2 m3 (klock_F o0c za zf zd zc zb id1 at2 m3) := by
 obtain ⟨r,hr⟩ : ∃ r,r=klock_F o0c za zf zd zc zb id1 at2 m3 := ⟨_,rfl⟩
 rw [← hr]
 unfold klock_F at hr
 unfold klock_S
 unfold klock_P at hP
 obtain ⟨hq0,hP⟩ := hP
 refine ⟨hq0,?_⟩
 by_cases hp76 : (kalive_F o0c za zf zd zc zb id1).1=0
 ·rw [if_pos hp76] at hr hP ⊢
  obtain ⟨hq0,hP⟩ := hP
  refine ⟨hq0,?_⟩
  by_cases hp77 : (cnow_F ((kalive_F o0c za zf zd zc zb id1).2) id1).2=0
  ·rw [if_pos hp77] at hr hP ⊢
   obtain ⟨tn9,htn9⟩ : ∃ x_,x_=mget ieq zc ((cnow_F ((kalive_F o0c za zf zd zc zb id1).2) id1).1) (0,0,0,0,false,0,(fun _=>0),0,[],[],[],[]) := ⟨_,rfl⟩
   refine ⟨tn9,htn9,?_⟩
   try rw [← htn9] at hr
   try dsimp only at hr
   try rw [← htn9] at hP
   try dsimp only at hP
   obtain ⟨hq0,hP⟩ := hP
   refine ⟨hq0,?_⟩
   by_cases hp78 : (resShard_F at2 (o0c 0)).2=0
   ·rw [if_pos hp78] at hr hP ⊢
    obtain ⟨hq0,hP⟩ := hP
    refine ⟨hq0,?_⟩
    obtain ⟨zg,hrn14⟩ : ∃ x_,x_=(task_F ((tn9).1) ((tn9).2.1) ((tn9).2.2.1) ((tn9).2.2.2.1) ((tn9).2.2.2.2.1) ((tn9).2.2.2.2.2.1) ((tn9).2.2.2.2.2.2.1) ((tn9).2.2.2.2.2.2.2.1) ((tn9).2.2.2.2.2.2.2.2.1) ((tn9).2.2.2.2.2.2.2.2.2.1) ((tn9).2.2.2.2.2.2.2.2.2.2.1) ((tn9).2.2.2.2.2.2.2.2.2.2.2) ((resShard_F at2 (o0c 0)).1) at2 m3) := ⟨_,rfl⟩
    refine ⟨zg,hrn14,?_⟩
    try rw [← hrn14] at hr
    try dsimp only at hr
    try rw [← hrn14] at hP
    try dsimp only at hP
    by_cases hp79 : zg.2.2=0
    ·rw [if_pos hp79] at hr hP ⊢
     obtain ⟨hq0,hP⟩ := hP
     refine ⟨hq0,?_⟩
     obtain ⟨hq0,hP⟩ := hP
     refine ⟨hq0,?_⟩
     exact hr
    ·rw [if_neg hp79] at hr hP ⊢
     exact hr
   ·rw [if_neg hp78] at hr hP ⊢
    exact hr
  ·rw [if_neg hp77] at hr hP ⊢
   exact hr
 ·rw [if_neg hp76] at hr hP ⊢
  exact hr
def kcommit_S (o0c : NI) (za : NI) (zf : Int) (zd : Int) (zc : UM) (zb : LM) (id1 : Int) (r : LM × Int × UM × LM × NI) : Prop :=
 (kalive_P o0c za zf zd zc zb id1)∧(
 if (kalive_F o0c za zf zd zc zb id1).1=0 then
  (cnow_P ((kalive_F o0c za zf zd zc zb id1).2) id1)∧(
  if (cnow_F ((kalive_F o0c za zf zd zc zb id1).2) id1).2=0 then
   ∃ tn9 : UT,tn9=mget ieq zc ((cnow_F ((kalive_F o0c za zf zd zc zb id1).2) id1).1) (0,0,0,0,false,0,(fun _=>0),0,[],[],[],[])∧(
   (tfinish_P ((tn9).1) ((tn9).2.1) ((tn9).2.2.1) ((tn9).2.2.2.1) ((tn9).2.2.2.2.1) ((tn9).2.2.2.2.2.1) ((tn9).2.2.2.2.2.2.1) ((tn9).2.2.2.2.2.2.2.1) ((tn9).2.2.2.2.2.2.2.2.1) ((tn9).2.2.2.2.2.2.2.2.2.1) ((tn9).2.2.2.2.2.2.2.2.2.2.1) ((tn9).2.2.2.2.2.2.2.2.2.2.2))∧(
   ∃ zh : UT × LM × Int,zh=(tfinish_F ((tn9).1) ((tn9).2.1) ((tn9).2.2.1) ((tn9).2.2.2.1) ((tn9).2.2.2.2.1) ((tn9).2.2.2.2.2.1) ((tn9).2.2.2.2.2.2.1) ((tn9).2.2.2.2.2.2.2.1) ((tn9).2.2.2.2.2.2.2.2.1) ((tn9).2.2.2.2.2.2.2.2.2.1) ((tn9).2.2.2.2.2.2.2.2.2.2.1) ((tn9).2.2.2.2.2.2.2.2.2.2.2))∧(
   if zh.2.2=0 then
    (kset_P o0c ((kalive_F o0c za zf zd zc zb id1).2) zf zd zc zb zh.1.1 zh.1.2.1 zh.1.2.2.1 zh.1.2.2.2.1 zh.1.2.2.2.2.1 zh.1.2.2.2.2.2.1 zh.1.2.2.2.2.2.2.1 zh.1.2.2.2.2.2.2.2.1 zh.1.2.2.2.2.2.2.2.2.1 zh.1.2.2.2.2.2.2.2.2.2.1 zh.1.2.2.2.2.2.2.2.2.2.2.1 zh.1.2.2.2.2.2.2.2.2.2.2.2)∧(
    r=((zh.2.1,0,(kset_F o0c ((kalive_F o0c za zf zd zc zb id1).2) zf zd zc zb zh.1.1 zh.1.2.1 zh.1.2.2.1 zh.1.2.2.2.1 zh.1.2.2.2.2.1 zh.1.2.2.2.2.2.1 zh.1.2.2.2.2.2.2.1 zh.1.2.2.2.2.2.2.2.1 zh.1.2.2.2.2.2.2.2.2.1 zh.1.2.2.2.2.2.2.2.2.2.1 zh.1.2.2.2.2.2.2.2.2.2.2.1 zh.1.2.2.2.2.2.2.2.2.2.2.2).1,(kset_F o0c ((kalive_F o0c za zf zd zc zb id1).2) zf zd zc zb zh.1.1 zh.1.2.1 zh.1.2.2.1 zh.1.2.2.2.1 zh.1.2.2.2.2.1 zh.1.2.2.2.2.2.1 zh.1.2.2.2.2.2.2.1 zh.1.2.2.2.2.2.2.2.1 zh.1.2.2.2.2.2.2.2.2.1 zh.1.2.2.2.2.2.2.2.2.2.1 zh.1.2.2.2.2.2.2.2.2.2.2.1 zh.1.2.2.2.2.2.2.2.2.2.2.2).2.1,(kset_F o0c ((kalive_F o0c za zf zd zc zb id1).2) zf zd zc zb zh.1.1 zh.1.2.1 zh.1.2.2.1 zh.1.2.2.2.1 zh.1.2.2.2.2.1 zh.1.2.2.2.2.2.1 zh.1.2.2.2.2.2.2.1 zh.1.2.2.2.2.2.2.2.1 zh.1.2.2.2.2.2.2.2.2.1 zh.1.2.2.2.2.2.2.2.2.2.1 zh.1.2.2.2.2.2.2.2.2.2.2.1 zh.1.2.2.2.2.2.2.2.2.2.2.2).2.2)))
   else
    r=(([],zh.2.2,zc,zb,(kalive_F o0c za zf zd zc zb id1).2)))))
  else
   r=(([],(cnow_F ((kalive_F o0c za zf zd zc zb id1).2) id1).2,zc,zb,(kalive_F o0c za zf zd zc zb id1).2)))
 else
  r=(([],(kalive_F o0c za zf zd zc zb id1).1,zc,zb,(kalive_F o0c za zf zd zc zb id1).2)))
def kcommit_F (o0c : NI) (za : NI) (zf : Int) (zd : Int) (zc : UM) (zb : LM) (id1 : Int) : LM × Int × UM × LM × NI :=
 if (kalive_F o0c za zf zd zc zb id1).1=0 then
  if (cnow_F ((kalive_F o0c za zf zd zc zb id1).2) id1).2=0 then
   (fun (tn9 : UT) =>
    (fun (zh : UT × LM × Int) =>
     if zh.2.2=0 then
      (zh.2.1,0,(kset_F o0c ((kalive_F o0c za zf zd zc zb id1).2) zf zd zc zb zh.1.1 zh.1.2.1 zh.1.2.2.1 zh.1.2.2.2.1 zh.1.2.2.2.2.1 zh.1.2.2.2.2.2.1 zh.1.2.2.2.2.2.2.1 zh.1.2.2.2.2.2.2.2.1 zh.1.2.2.2.2.2.2.2.2.1 zh.1.2.2.2.2.2.2.2.2.2.1 zh.1.2.2.2.2.2.2.2.2.2.2.1 zh.1.2.2.2.2.2.2.2.2.2.2.2).1,(kset_F o0c ((kalive_F o0c za zf zd zc zb id1).2) zf zd zc zb zh.1.1 zh.1.2.1 zh.1.2.2.1 zh.1.2.2.2.1 zh.1.2.2.2.2.1 zh.1.2.2.2.2.2.1 zh.1.2.2.2.2.2.2.1 zh.1.2.2.2.2.2.2.2.1 zh.1.2.2.2.2.2.2.2.2.1 zh.1.2.2.2.2.2.2.2.2.2.1 zh.1.2.2.2.2.2.2.2.2.2.2.1 zh.1.2.2.2.2.2.2.2.2.2.2.2).2.1,(kset_F o0c ((kalive_F o0c za zf zd zc zb id1).2) zf zd zc zb zh.1.1 zh.1.2.1 zh.1.2.2.1 zh.1.2.2.2.1 zh.1.2.2.2.2.1 zh.1.2.2.2.2.2.1 zh.1.2.2.2.2.2.2.1 zh.1.2.2.2.2.2.2.2.1 zh.1.2.2.2.2.2.2.2.2.1 zh.1.2.2.2.2.2.2.2.2.2.1 zh.1.2.2.2.2.2.2.2.2.2.2.1 zh.1.2.2.2.2.2.2.2.2.2.2.2).2.2)
     else
      ([],zh.2.2,zc,zb,(kalive_F o0c za zf zd zc zb id1).2)) ((tfinish_F ((tn9).1) ((tn9).2.1) ((tn9).2.2.1) ((tn9).2.2.2.1) ((tn9).2.2.2.2.1) ((tn9).2.2.2.2.2.1) ((tn9).2.2.2.2.2.2.1) ((tn9).2.2.2.2.2.2.2.1) ((tn9).2.2.2.2.2.2.2.2.1) ((tn9).2.2.2.2.2.2.2.2.2.1) ((tn9).2.2.2.2.2.2.2.2.2.2.1) ((tn9).2.2.2.2.2.2.2.2.2.2.2)))) (mget ieq zc ((cnow_F ((kalive_F o0c za zf zd zc zb id1).2) id1).1) (0,0,0,0,false,0,(fun _=>0),0,[],[],[],[]))
  else
   ([],(cnow_F ((kalive_F o0c za zf zd zc zb id1).2) id1).2,zc,zb,(kalive_F o0c za zf zd zc zb id1).2)
 else
  ([],(kalive_F o0c za zf zd zc zb id1).1,zc,zb,(kalive_F o0c za zf zd zc zb id1).2)
def kcommit_P (o0c : NI) (za : NI) (zf : Int) (zd : Int) (zc : UM) (zb : LM) (id1 : Int) : Prop :=
 (kalive_P o0c za zf zd zc zb id1)∧(
 if (kalive_F o0c za zf zd zc zb id1).1=0 then
  (cnow_P ((kalive_F o0c za zf zd zc zb id1).2) id1)∧(
  if (cnow_F ((kalive_F o0c za zf zd zc zb id1).2) id1).2=0 then
   (fun (tn9 : UT) =>
    (tfinish_P ((tn9).1) ((tn9).2.1) ((tn9).2.2.1) ((tn9).2.2.2.1) ((tn9).2.2.2.2.1) ((tn9).2.2.2.2.2.1) ((tn9).2.2.2.2.2.2.1) ((tn9).2.2.2.2.2.2.2.1) ((tn9).2.2.2.2.2.2.2.2.1) ((tn9).2.2.2.2.2.2.2.2.2.1) ((tn9).2.2.2.2.2.2.2.2.2.2.1) ((tn9).2.2.2.2.2.2.2.2.2.2.2))∧(
    (fun (zh : UT × LM × Int) =>
     if zh.2.2=0 then
      (kset_P o0c ((kalive_F o0c za zf zd zc zb id1).2) zf zd zc zb zh.1.1 zh.1.2.1 zh.1.2.2.1 zh.1.2.2.2.1 zh.1.2.2.2.2.1 zh.1.2.2.2.2.2.1 zh.1.2.2.2.2.2.2.1 zh.1.2.2.2.2.2.2.2.1 zh.1.2.2.2.2.2.2.2.2.1 zh.1.2.2.2.2.2.2.2.2.2.1 zh.1.2.2.2.2.2.2.2.2.2.2.1 zh.1.2.2.2.2.2.2.2.2.2.2.2)∧(
      True)
     else
      True) ((tfinish_F ((tn9).1) ((tn9).2.1) ((tn9).2.2.1) ((tn9).2.2.2.1) ((tn9).2.2.2.2.1) ((tn9).2.2.2.2.2.1) ((tn9).2.2.2.2.2.2.1) ((tn9).2.2.2.2.2.2.2.1) ((tn9).2.2.2.2.2.2.2.2.1) ((tn9).2.2.2.2.2.2.2.2.2.1) ((tn9).2.2.2.2.2.2.2.2.2.2.1) ((tn9).2.2.2.2.2.2.2.2.2.2.2))))) (mget ieq zc ((cnow_F ((kalive_F o0c za zf zd zc zb id1).2) id1).1) (0,0,0,0,false,0,(fun _=>0),0,[],[],[],[]))
  else
   True)
 else
  True)
theorem kcommit_ok (o0c : NI) (za : NI) (zf : Int) (zd : Int) (zc : UM) (zb : LM) (id1 : Int) (hP : kcommit_P o0c za zf zd zc zb id1) : kcommit_S o0c za zf zd zc zb id1 (kcommit_F o0c za zf zd zc zb id1) := by
 obtain ⟨r,hr⟩ : ∃ r,r=kcommit_F o0c za zf zd zc zb id1 := ⟨_,rfl⟩
 rw [← hr]
 unfold kcommit_F at hr
 unfold kcommit_S
 unfold kcommit_P at hP
 obtain ⟨hq0,hP⟩ := hP
 refine ⟨hq0,?_⟩
 by_cases hp80 : (kalive_F o0c za zf zd zc zb id1).1=0
 ·rw [if_pos hp80] at hr hP ⊢
  obtain ⟨hq0,hP⟩ := hP
  refine ⟨hq0,?_⟩
  by_cases hp81 : (cnow_F ((kalive_F o0c za zf zd zc zb id1).2) id1).2=0
  ·rw [if_pos hp81] at hr hP ⊢
   obtain ⟨tn9,htn9⟩ : ∃ x_,x_=mget ieq zc ((cnow_F ((kalive_F o0c za zf zd zc zb id1).2) id1).1) (0,0,0,0,false,0,(fun _=>0),0,[],[],[],[]) := ⟨_,rfl⟩
   refine ⟨tn9,htn9,?_⟩
   try rw [← htn9] at hr
   try dsimp only at hr
   try rw [← htn9] at hP
   try dsimp only at hP
   obtain ⟨hq0,hP⟩ := hP
   refine ⟨hq0,?_⟩
   obtain ⟨zh,hrn12⟩ : ∃ x_,x_=(tfinish_F ((tn9).1) ((tn9).2.1) ((tn9).2.2.1) ((tn9).2.2.2.1) ((tn9).2.2.2.2.1) ((tn9).2.2.2.2.2.1) ((tn9).2.2.2.2.2.2.1) ((tn9).2.2.2.2.2.2.2.1) ((tn9).2.2.2.2.2.2.2.2.1) ((tn9).2.2.2.2.2.2.2.2.2.1) ((tn9).2.2.2.2.2.2.2.2.2.2.1) ((tn9).2.2.2.2.2.2.2.2.2.2.2)) := ⟨_,rfl⟩
   refine ⟨zh,hrn12,?_⟩
   try rw [← hrn12] at hr
   try dsimp only at hr
   try rw [← hrn12] at hP
   try dsimp only at hP
   by_cases hp82 : zh.2.2=0
   ·rw [if_pos hp82] at hr hP ⊢
    obtain ⟨hq0,hP⟩ := hP
    refine ⟨hq0,?_⟩
    exact hr
   ·rw [if_neg hp82] at hr hP ⊢
    exact hr
  ·rw [if_neg hp81] at hr hP ⊢
   exact hr
 ·rw [if_neg hp80] at hr hP ⊢
  exact hr
def kabort_S (o0c : NI) (za : NI) (zf : Int) (zd : Int) (zc : UM) (zb : LM) (tx1 : Int) (reason2 : Int) (states3 : (List Int)) (r : LM × Int × UM × LM × NI) : Prop :=
 ∃ tn1 : UT,tn1=mget ieq zc tx1 (0,0,0,0,false,0,(fun _=>0),0,[],[],[],[])∧(
 (hasI_P states3 ((tn1).2.1))∧(
 if ((hasI_F states3 ((tn1).2.1)))=true then
  (tabort_P ((tn1).1) ((tn1).2.1) ((tn1).2.2.1) ((tn1).2.2.2.1) ((tn1).2.2.2.2.1) ((tn1).2.2.2.2.2.1) ((tn1).2.2.2.2.2.2.1) ((tn1).2.2.2.2.2.2.2.1) ((tn1).2.2.2.2.2.2.2.2.1) ((tn1).2.2.2.2.2.2.2.2.2.1) ((tn1).2.2.2.2.2.2.2.2.2.2.1) ((tn1).2.2.2.2.2.2.2.2.2.2.2) reason2)∧(
  ∃ rn6 : UT × LM × Int,rn6=(tabort_F ((tn1).1) ((tn1).2.1) ((tn1).2.2.1) ((tn1).2.2.2.1) ((tn1).2.2.2.2.1) ((tn1).2.2.2.2.2.1) ((tn1).2.2.2.2.2.2.1) ((tn1).2.2.2.2.2.2.2.1) ((tn1).2.2.2.2.2.2.2.2.1) ((tn1).2.2.2.2.2.2.2.2.2.1) ((tn1).2.2.2.2.2.2.2.2.2.2.1) ((tn1).2.2.2.2.2.2.2.2.2.2.2) reason2)∧(
  if rn6.2.2=0 then
   (kset_P o0c za zf zd zc zb rn6.1.1 rn6.1.2.1 rn6.1.2.2.1 rn6.1.2.2.2.1 rn6.1.2.2.2.2.1 rn6.1.2.2.2.2.2.1 rn6.1.2.2.2.2.2.2.1 rn6.1.2.2.2.2.2.2.2.1 rn6.1.2.2.2.2.2.2.2.2.1 rn6.1.2.2.2.2.2.2.2.2.2.1 rn6.1.2.2.2.2.2.2.2.2.2.2.1 rn6.1.2.2.2.2.2.2.2.2.2.2.2)∧(
   r=((rn6.2.1,0,(kset_F o0c za zf zd zc zb rn6.1.1 rn6.1.2.1 rn6.1.2.2.1 rn6.1.2.2.2.1 rn6.1.2.2.2.2.1 rn6.1.2.2.2.2.2.1 rn6.1.2.2.2.2.2.2.1 rn6.1.2.2.2.2.2.2.2.1 rn6.1.2.2.2.2.2.2.2.2.1 rn6.1.2.2.2.2.2.2.2.2.2.1 rn6.1.2.2.2.2.2.2.2.2.2.2.1 rn6.1.2.2.2.2.2.2.2.2.2.2.2).1,(kset_F o0c za zf zd zc zb rn6.1.1 rn6.1.2.1 rn6.1.2.2.1 rn6.1.2.2.2.1 rn6.1.2.2.2.2.1 rn6.1.2.2.2.2.2.1 rn6.1.2.2.2.2.2.2.1 rn6.1.2.2.2.2.2.2.2.1 rn6.1.2.2.2.2.2.2.2.2.1 rn6.1.2.2.2.2.2.2.2.2.2.1 rn6.1.2.2.2.2.2.2.2.2.2.2.1 rn6.1.2.2.2.2.2.2.2.2.2.2.2).2.1,(kset_F o0c za zf zd zc zb rn6.1.1 rn6.1.2.1 rn6.1.2.2.1 rn6.1.2.2.2.1 rn6.1.2.2.2.2.1 rn6.1.2.2.2.2.2.1 rn6.1.2.2.2.2.2.2.1 rn6.1.2.2.2.2.2.2.2.1 rn6.1.2.2.2.2.2.2.2.2.1 rn6.1.2.2.2.2.2.2.2.2.2.1 rn6.1.2.2.2.2.2.2.2.2.2.2.1 rn6.1.2.2.2.2.2.2.2.2.2.2.2).2.2)))
  else
   r=(([],rn6.2.2,zc,zb,za))))
 else
  r=(([],11,zc,zb,za))))
def kabort_F (o0c : NI) (za : NI) (zf : Int) (zd : Int) (zc : UM) (zb : LM) (tx1 : Int) (reason2 : Int) (states3 : (List Int)) : LM × Int × UM × LM × NI :=
 (fun (tn1 : UT) =>
  if ((hasI_F states3 ((tn1).2.1)))=true then
   (fun (rn6 : UT × LM × Int) =>
    if rn6.2.2=0 then
     (rn6.2.1,0,(kset_F o0c za zf zd zc zb rn6.1.1 rn6.1.2.1 rn6.1.2.2.1 rn6.1.2.2.2.1 rn6.1.2.2.2.2.1 rn6.1.2.2.2.2.2.1 rn6.1.2.2.2.2.2.2.1 rn6.1.2.2.2.2.2.2.2.1 rn6.1.2.2.2.2.2.2.2.2.1 rn6.1.2.2.2.2.2.2.2.2.2.1 rn6.1.2.2.2.2.2.2.2.2.2.2.1 rn6.1.2.2.2.2.2.2.2.2.2.2.2).1,(kset_F o0c za zf zd zc zb rn6.1.1 rn6.1.2.1 rn6.1.2.2.1 rn6.1.2.2.2.1 rn6.1.2.2.2.2.1 rn6.1.2.2.2.2.2.1 rn6.1.2.2.2.2.2.2.1 rn6.1.2.2.2.2.2.2.2.1 rn6.1.2.2.2.2.2.2.2.2.1 rn6.1.2.2.2.2.2.2.2.2.2.1 rn6.1.2.2.2.2.2.2.2.2.2.2.1 rn6.1.2.2.2.2.2.2.2.2.2.2.2).2.1,(kset_F o0c za zf zd zc zb rn6.1.1 rn6.1.2.1 rn6.1.2.2.1 rn6.1.2.2.2.1 rn6.1.2.2.2.2.1 rn6.1.2.2.2.2.2.1 rn6.1.2.2.2.2.2.2.1 rn6.1.2.2.2.2.2.2.2.1 rn6.1.2.2.2.2.2.2.2.2.1 rn6.1.2.2.2.2.2.2.2.2.2.1 rn6.1.2.2.2.2.2.2.2.2.2.2.1 rn6.1.2.2.2.2.2.2.2.2.2.2.2).2.2)
    else
     ([],rn6.2.2,zc,zb,za)) ((tabort_F ((tn1).1) ((tn1).2.1) ((tn1).2.2.1) ((tn1).2.2.2.1) ((tn1).2.2.2.2.1) ((tn1).2.2.2.2.2.1) ((tn1).2.2.2.2.2.2.1) ((tn1).2.2.2.2.2.2.2.1) ((tn1).2.2.2.2.2.2.2.2.1) ((tn1).2.2.2.2.2.2.2.2.2.1) ((tn1).2.2.2.2.2.2.2.2.2.2.1) ((tn1).2.2.2.2.2.2.2.2.2.2.2) reason2))
  else
   ([],11,zc,zb,za)) (mget ieq zc tx1 (0,0,0,0,false,0,(fun _=>0),0,[],[],[],[]))
def kabort_P (o0c : NI) (za : NI) (zf : Int) (zd : Int) (zc : UM) (zb : LM) (tx1 : Int) (reason2 : Int) (states3 : (List Int)) : Prop :=
 (fun (tn1 : UT) =>
  (hasI_P states3 ((tn1).2.1))∧(
  if ((hasI_F states3 ((tn1).2.1)))=true then
   (tabort_P ((tn1).1) ((tn1).2.1) ((tn1).2.2.1) ((tn1).2.2.2.1) ((tn1).2.2.2.2.1) ((tn1).2.2.2.2.2.1) ((tn1).2.2.2.2.2.2.1) ((tn1).2.2.2.2.2.2.2.1) ((tn1).2.2.2.2.2.2.2.2.1) ((tn1).2.2.2.2.2.2.2.2.2.1) ((tn1).2.2.2.2.2.2.2.2.2.2.1) ((tn1).2.2.2.2.2.2.2.2.2.2.2) reason2)∧(
   (fun (rn6 : UT × LM × Int) =>
    if rn6.2.2=0 then
     (kset_P o0c za zf zd zc zb rn6.1.1 rn6.1.2.1 rn6.1.2.2.1 rn6.1.2.2.2.1 rn6.1.2.2.2.2.1 rn6.1.2.2.2.2.2.1 rn6.1.2.2.2.2.2.2.1 rn6.1.2.2.2.2.2.2.2.1 rn6.1.2.2.2.2.2.2.2.2.1 rn6.1.2.2.2.2.2.2.2.2.2.1 rn6.1.2.2.2.2.2.2.2.2.2.2.1 rn6.1.2.2.2.2.2.2.2.2.2.2.2)∧(
     True)
    else
     True) ((tabort_F ((tn1).1) ((tn1).2.1) ((tn1).2.2.1) ((tn1).2.2.2.1) ((tn1).2.2.2.2.1) ((tn1).2.2.2.2.2.1) ((tn1).2.2.2.2.2.2.1) ((tn1).2.2.2.2.2.2.2.1) ((tn1).2.2.2.2.2.2.2.2.1) ((tn1).2.2.2.2.2.2.2.2.2.1) ((tn1).2.2.2.2.2.2.2.2.2.2.1) ((tn1).2.2.2.2.2.2.2.2.2.2.2) reason2)))
  else
   True)) (mget ieq zc tx1 (0,0,0,0,false,0,(fun _=>0),0,[],[],[],[]))
theorem kabort_ok (o0c : NI) (za : NI) (zf : Int) (zd : Int) (zc : UM) (zb : LM) (tx1 : Int) (reason2 : Int) (states3 : (List Int)) (hP : kabort_P o0c za zf zd zc zb tx1 reason2 states3) : kabort_S o0c za zf zd zc zb tx1 reason2 states3 (kabort_F o0c za zf zd zc zb tx1 reason2 states3) := by
 obtain ⟨r,hr⟩ : ∃ r,r=kabort_F o0c za zf zd zc zb tx1 reason2 states3 := ⟨_,rfl⟩
 rw [← hr]
 unfold kabort_F at hr
 unfold kabort_S
 unfold kabort_P at hP
 obtain ⟨tn1,htn1⟩ : ∃ x_,x_=mget ieq zc tx1 (0,0,0,0,false,0,(fun _=>0),0,[],[],[],[]) := ⟨_,rfl⟩
 refine ⟨tn1,htn1,?_⟩
 try rw [← htn1] at hr
 try dsimp only at hr
 try rw [← htn1] at hP
 try dsimp only at hP
 obtain ⟨hq0,hP⟩ := hP
 refine ⟨hq0,?_⟩
 by_cases hp83 : ((hasI_F states3 ((tn1).2.1)))=true
 ·rw [if_pos hp83] at hr hP ⊢
  obtain ⟨hq0,hP⟩ := hP
  refine ⟨hq0,?_⟩
  obtain ⟨rn6,hrn6⟩ : ∃ x_,x_=(tabort_F ((tn1).1) ((tn1).2.1) ((tn1).2.2.1) ((tn1).2.2.2.1) ((tn1).2.2.2.2.1) ((tn1).2.2.2.2.2.1) ((tn1).2.2.2.2.2.2.1) ((tn1).2.2.2.2.2.2.2.1) ((tn1).2.2.2.2.2.2.2.2.1) ((tn1).2.2.2.2.2.2.2.2.2.1) ((tn1).2.2.2.2.2.2.2.2.2.2.1) ((tn1).2.2.2.2.2.2.2.2.2.2.2) reason2) := ⟨_,rfl⟩
  refine ⟨rn6,hrn6,?_⟩
  try rw [← hrn6] at hr
  try dsimp only at hr
  try rw [← hrn6] at hP
  try dsimp only at hP
  by_cases hp84 : rn6.2.2=0
  ·rw [if_pos hp84] at hr hP ⊢
   obtain ⟨hq0,hP⟩ := hP
   refine ⟨hq0,?_⟩
   exact hr
  ·rw [if_neg hp84] at hr hP ⊢
   exact hr
 ·rw [if_neg hp83] at hr hP ⊢
  exact hr
def kabortC_S (o0c : NI) (za : NI) (zf : Int) (zd : Int) (zc : UM) (zb : LM) (id1 : Int) (r : LM × Int × UM × LM × NI) : Prop :=
 (kalive_P o0c za zf zd zc zb id1)∧(
 if (kalive_F o0c za zf zd zc zb id1).1=0 then
  (cnow_P ((kalive_F o0c za zf zd zc zb id1).2) id1)∧(
  if (cnow_F ((kalive_F o0c za zf zd zc zb id1).2) id1).2=0 then
   ∃ tn9 : UT,tn9=mget ieq zc ((cnow_F ((kalive_F o0c za zf zd zc zb id1).2) id1).1) (0,0,0,0,false,0,(fun _=>0),0,[],[],[],[])∧(
   (kabort_P o0c ((kalive_F o0c za zf zd zc zb id1).2) zf zd zc zb ((tn9).1) 1 ([1]))∧(
   r=(((kabort_F o0c ((kalive_F o0c za zf zd zc zb id1).2) zf zd zc zb ((tn9).1) 1 ([1])).1,(kabort_F o0c ((kalive_F o0c za zf zd zc zb id1).2) zf zd zc zb ((tn9).1) 1 ([1])).2.1,(kabort_F o0c ((kalive_F o0c za zf zd zc zb id1).2) zf zd zc zb ((tn9).1) 1 ([1])).2.2.1,(kabort_F o0c ((kalive_F o0c za zf zd zc zb id1).2) zf zd zc zb ((tn9).1) 1 ([1])).2.2.2.1,(kabort_F o0c ((kalive_F o0c za zf zd zc zb id1).2) zf zd zc zb ((tn9).1) 1 ([1])).2.2.2.2))))
  else
   r=(([],(cnow_F ((kalive_F o0c za zf zd zc zb id1).2) id1).2,zc,zb,(kalive_F o0c za zf zd zc zb id1).2)))
 else
  r=(([],(kalive_F o0c za zf zd zc zb id1).1,zc,zb,(kalive_F o0c za zf zd zc zb id1).2)))
def kabortC_F (o0c : NI) (za : NI) (zf : Int) (zd : Int) (zc : UM) (zb : LM) (id1 : Int) : LM × Int × UM × LM × NI :=
 if (kalive_F o0c za zf zd zc zb id1).1=0 then
  if (cnow_F ((kalive_F o0c za zf zd zc zb id1).2) id1).2=0 then
   (fun (tn9 : UT) =>
    ((kabort_F o0c ((kalive_F o0c za zf zd zc zb id1).2) zf zd zc zb ((tn9).1) 1 ([1])).1,(kabort_F o0c ((kalive_F o0c za zf zd zc zb id1).2) zf zd zc zb ((tn9).1) 1 ([1])).2.1,(kabort_F o0c ((kalive_F o0c za zf zd zc zb id1).2) zf zd zc zb ((tn9).1) 1 ([1])).2.2.1,(kabort_F o0c ((kalive_F o0c za zf zd zc zb id1).2) zf zd zc zb ((tn9).1) 1 ([1])).2.2.2.1,(kabort_F o0c ((kalive_F o0c za zf zd zc zb id1).2) zf zd zc zb ((tn9).1) 1 ([1])).2.2.2.2)) (mget ieq zc ((cnow_F ((kalive_F o0c za zf zd zc zb id1).2) id1).1) (0,0,0,0,false,0,(fun _=>0),0,[],[],[],[]))
  else
   ([],(cnow_F ((kalive_F o0c za zf zd zc zb id1).2) id1).2,zc,zb,(kalive_F o0c za zf zd zc zb id1).2)
 else
  ([],(kalive_F o0c za zf zd zc zb id1).1,zc,zb,(kalive_F o0c za zf zd zc zb id1).2)
def kabortC_P (o0c : NI) (za : NI) (zf : Int) (zd : Int) (zc : UM) (zb : LM) (id1 : Int) : Prop :=
 (kalive_P o0c za zf zd zc zb id1)∧(
 if (kalive_F o0c za zf zd zc zb id1).1=0 then
  (cnow_P ((kalive_F o0c za zf zd zc zb id1).2) id1)∧(
  if (cnow_F ((kalive_F o0c za zf zd zc zb id1).2) id1).2=0 then
   (fun (tn9 : UT) =>
    (kabort_P o0c ((kalive_F o0c za zf zd zc zb id1).2) zf zd zc zb ((tn9).1) 1 ([1]))∧(
    True)) (mget ieq zc ((cnow_F ((kalive_F o0c za zf zd zc zb id1).2) id1).1) (0,0,0,0,false,0,(fun _=>0),0,[],[],[],[]))
  else
   True)
 else
  True)
theorem kabortC_ok (o0c : NI) (za : NI) (zf : Int) (zd : Int) (zc : UM) (zb : LM) (id1 : Int) (hP : kabortC_P o0c za zf zd zc zb id1) : kabortC_S o0c za zf zd zc zb id1 (kabortC_F o0c za zf zd zc zb id1) := by
 obtain ⟨r,hr⟩ : ∃ r,r=kabortC_F o0c za zf zd zc zb id1 := ⟨_,rfl⟩
 rw [← hr]
 unfold kabortC_F at hr
 unfold kabortC_S
 unfold kabortC_P at hP
 obtain ⟨hq0,hP⟩ := hP
 refine ⟨hq0,?_⟩
 by_cases hp85 : (kalive_F o0c za zf zd zc zb id1).1=0
 ·rw [if_pos hp85] at hr hP ⊢
  obtain ⟨hq0,hP⟩ := hP
  refine ⟨hq0,?_⟩
  by_cases hp86 : (cnow_F ((kalive_F o0c za zf zd zc zb id1).2) id1).2=0
  ·rw [if_pos hp86] at hr hP ⊢
   obtain ⟨tn9,htn9⟩ : ∃ x_,x_=mget ieq zc ((cnow_F ((kalive_F o0c za zf zd zc zb id1).2) id1).1) (0,0,0,0,false,0,(fun _=>0),0,[],[],[],[]) := ⟨_,rfl⟩
   refine ⟨tn9,htn9,?_⟩
   try rw [← htn9] at hr
   try dsimp only at hr
   try rw [← htn9] at hP
   try dsimp only at hP
   obtain ⟨hq0,hP⟩ := hP
   refine ⟨hq0,?_⟩
   exact hr
  ·rw [if_neg hp86] at hr hP ⊢
   exact hr
 ·rw [if_neg hp85] at hr hP ⊢
  exact hr
def kcrash_S (o0c : NI) (za : NI) (zf : Int) (zd : Int) (zc : UM) (zb : LM) (id1 : Int) (r : Int × LM × NI) : Prop :=
 (kalive_P o0c za zf zd zc zb id1)∧(
 if (kalive_F o0c za zf zd zc zb id1).1=0 then
  (ccrash_P ((kalive_F o0c za zf zd zc zb id1).2) id1 zf)∧(
  ((zb.length + 1) * 56≤140737488355328)∧(
  r=((0,(zb++[(updI (updI (fun _=>0) 0 8) 1 id1)]),(ccrash_F ((kalive_F o0c za zf zd zc zb id1).2) id1 zf).2))))
 else
  r=(((kalive_F o0c za zf zd zc zb id1).1,zb,(kalive_F o0c za zf zd zc zb id1).2)))
def kcrash_F (o0c : NI) (za : NI) (zf : Int) (zd : Int) (zc : UM) (zb : LM) (id1 : Int) : Int × LM × NI :=
 if (kalive_F o0c za zf zd zc zb id1).1=0 then
  (0,(zb++[(updI (updI (fun _=>0) 0 8) 1 id1)]),(ccrash_F ((kalive_F o0c za zf zd zc zb id1).2) id1 zf).2)
 else
  ((kalive_F o0c za zf zd zc zb id1).1,zb,(kalive_F o0c za zf zd zc zb id1).2)
def kcrash_P (o0c : NI) (za : NI) (zf : Int) (zd : Int) (zc : UM) (zb : LM) (id1 : Int) : Prop :=
 (kalive_P o0c za zf zd zc zb id1)∧(
 if (kalive_F o0c za zf zd zc zb id1).1=0 then
  (ccrash_P ((kalive_F o0c za zf zd zc zb id1).2) id1 zf)∧(
  ((zb.length + 1) * 56≤140737488355328)∧(
  True))
 else
  True)
theorem kcrash_ok (o0c : NI) (za : NI) (zf : Int) (zd : Int) (zc : UM) (zb : LM) (id1 : Int) (hP : kcrash_P o0c za zf zd zc zb id1) : kcrash_S o0c za zf zd zc zb id1 (kcrash_F o0c za zf zd zc zb id1) := by
 obtain ⟨r,hr⟩ : ∃ r,r=kcrash_F o0c za zf zd zc zb id1 := ⟨_,rfl⟩
 rw [← hr]
 unfold kcrash_F at hr
 unfold kcrash_S
 unfold kcrash_P at hP
 obtain ⟨hq0,hP⟩ := hP
 refine ⟨hq0,?_⟩
 by_cases hp87 : (kalive_F o0c za zf zd zc zb id1).1=0
 ·rw [if_pos hp87] at hr hP ⊢
  obtain ⟨hq0,hP⟩ := hP
  refine ⟨hq0,?_⟩
  obtain ⟨hq0,hP⟩ := hP
  refine ⟨hq0,?_⟩
  exact hr
 ·rw [if_neg hp87] at hr hP ⊢
  exact hr
def kwounded_S (o0c : NI) (za : NI) (zf : Int) (zd : Int) (zc : UM) (zb : LM) (m1 : NI) (r : LM × UM × LM × NI) : Prop :=
 ∃ tn1 : UT,tn1=mget ieq zc (m1 9) (0,0,0,0,false,0,(fun _=>0),0,[],[],[],[])∧(
 if (((nz (o0c 1))) || ((!(decide ((tn1).2.1=1))) && (!(decide ((tn1).2.1=2)))))=true then
  r=(([],zc,zb,za))
 else
  (kabort_P o0c za zf zd zc zb (m1 3) 3 ([1]))∧(
  r=(((kabort_F o0c za zf zd zc zb (m1 3) 3 ([1])).1,(kabort_F o0c za zf zd zc zb (m1 3) 3 ([1])).2.2.1,(kabort_F o0c za zf zd zc zb (m1 3) 3 ([1])).2.2.2.1,(kabort_F o0c za zf zd zc zb (m1 3) 3 ([1])).2.2.2.2))))
def kwounded_F (o0c : NI) (za : NI) (zf : Int) (zd : Int) (zc : UM) (zb : LM) (m1 : NI) : LM × UM × LM × NI :=
 (fun (tn1 : UT) =>
  if (((nz (o0c 1))) || ((!(decide ((tn1).2.1=1))) && (!(decide ((tn1).2.1=2)))))=true then
   ([],zc,zb,za)
  else
   ((kabort_F o0c za zf zd zc zb (m1 3) 3 ([1])).1,(kabort_F o0c za zf zd zc zb (m1 3) 3 ([1])).2.2.1,(kabort_F o0c za zf zd zc zb (m1 3) 3 ([1])).2.2.2.1,(kabort_F o0c za zf zd zc zb (m1 3) 3 ([1])).2.2.2.2)) (mget ieq zc (m1 9) (0,0,0,0,false,0,(fun _=>0),0,[],[],[],[]))
def kwounded_P (o0c : NI) (za : NI) (zf : Int) (zd : Int) (zc : UM) (zb : LM) (m1 : NI) : Prop :=
 (fun (tn1 : UT) =>
  if (((nz (o0c 1))) || ((!(decide ((tn1).2.1=1))) && (!(decide ((tn1).2.1=2)))))=true then
   True
  else
   (kabort_P o0c za zf zd zc zb (m1 3) 3 ([1]))∧(
   True)) (mget ieq zc (m1 9) (0,0,0,0,false,0,(fun _=>0),0,[],[],[],[]))
theorem kwounded_ok (o0c : NI) (za : NI) (zf : Int) (zd : Int) (zc : UM) (zb : LM) (m1 : NI) (hP : kwounded_P o0c za zf zd zc zb m1) : kwounded_S o0c za zf zd zc zb m1 (kwounded_F o0c za zf zd zc zb m1) := by
 obtain ⟨r,hr⟩ : ∃ r,r=kwounded_F o0c za zf zd zc zb m1 := ⟨_,rfl⟩
 rw [← hr]
 unfold kwounded_F at hr
 unfold kwounded_S
 unfold kwounded_P at hP
 obtain ⟨tn1,htn1⟩ : ∃ x_,x_=mget ieq zc (m1 9) (0,0,0,0,false,0,(fun _=>0),0,[],[],[],[]) := ⟨_,rfl⟩
 refine ⟨tn1,htn1,?_⟩
 try rw [← htn1] at hr
 try dsimp only at hr
 try rw [← htn1] at hP
 try dsimp only at hP
 by_cases hp88 : (((nz (o0c 1))) || ((!(decide ((tn1).2.1=1))) && (!(decide ((tn1).2.1=2)))))=true
 ·rw [if_pos hp88] at hr hP ⊢
  exact hr
 ·rw [if_neg hp88] at hr hP ⊢
  obtain ⟨hq0,hP⟩ := hP
  refine ⟨hq0,?_⟩
  exact hr
end Go.E
namespace Go.E
open Go
def kopen_l1 (o0c : NI) (za : NI) (zc : Int) (zd : Int) (zf : UM) (zb : LM) (out3 : LM) (x10 : Int) (o : (LM × Int) ⊕ (LM)) : Prop :=
 if x10 < ((call_F o0c za zc zd zf zb).length : Int) then
  (0≤x10∧x10 < (call_F o0c za zc zd zf zb).length)∧(
  ∃ tn7 : UT,tn7=mget ieq zf ((call_F o0c za zc zd zf zb)[x10.toNat]!) (0,0,0,0,false,0,(fun _=>0),0,[],[],[],[])∧(
  if ((tn7).2.2.2.2.1)=true then
   ((out3.length + 1) * 16≤140737488355328)∧(
   (inI64 (x10 + 1))∧(
   o=(.inl ((out3++[(updI (updI (fun _=>0) 0 ((call_F o0c za zc zd zf zb)[x10.toNat]!)) 1 ((tn7).2.2.2.1))]),x10 + 1))))
  else
   (inI64 (x10 + 1))∧(
   o=(.inl (out3,x10 + 1)))))
 else
  o=(.inr out3)
def kopen_k1a (out3 : LM) (r : LM) : Prop :=
 r=(out3)
def kopen_S (o0c : NI) (za : NI) (zc : Int) (zd : Int) (zf : UM) (zb : LM) (r : LM) : Prop :=
 (call_P o0c za zc zd zf zb)∧(
 ∃ x : LM,Wh (fun (s : LM × Int) (o : (LM × Int) ⊕ (LM))=>kopen_l1 o0c za zc zd zf zb s.1 s.2 o) (([],0) : LM × Int) x∧kopen_k1a x r)
def kview_l1 (o0c : NI) (za : NI) (zc : Int) (zd : Int) (zf : UM) (zb : LM) (x27 : Int) (fb3_2 : (List UT)) (o : (Int × (List UT)) ⊕ ((List UT))) : Prop :=
 if x27 < ((call_F o0c za zc zd zf zb).length : Int) then
  (0≤x27∧x27 < (call_F o0c za zc zd zf zb).length)∧(
  ∃ tn12 : UT,tn12=mget ieq zf ((call_F o0c za zc zd zf zb)[x27.toNat]!) (0,0,0,0,false,0,(fun _=>0),0,[],[],[],[])∧(
  (cloneI_P ((tn12).2.2.2.2.2.2.2.2.1))∧(
  (cloneI_P ((tn12).2.2.2.2.2.2.2.2.2.1))∧(
  (cloneI_P ((tn12).2.2.2.2.2.2.2.2.2.2.1))∧(
  (cloneG_P ((tn12).2.2.2.2.2.2.2.2.2.2.2))∧(
  ((fb3_2.length + 1) * 168≤140737488355328)∧(
  (inI64 (x27 + 1))∧(
  o=(.inl (x27 + 1,(fb3_2++[((tn12).1,(tn12).2.1,(tn12).2.2.1,(tn12).2.2.2.1,(tn12).2.2.2.2.1,(tn12).2.2.2.2.2.1,((tn12).2.2.2.2.2.2.1),(tn12).2.2.2.2.2.2.2.1,(cloneI_F ((tn12).2.2.2.2.2.2.2.2.1)),(cloneI_F ((tn12).2.2.2.2.2.2.2.2.2.1)),(cloneI_F ((tn12).2.2.2.2.2.2.2.2.2.2.1)),(cloneG_F ((tn12).2.2.2.2.2.2.2.2.2.2.2)))])))))))))))
 else
  o=(.inr fb3_2)
def kview_k1a (zc : Int) (zd : Int) (zb : LM) (fb3_2 : (List UT)) (r : (Int × Int × (List UT) × LM)) : Prop :=
 r=((zc,zd,fb3_2,(cloneE_F zb)))
def kview_S (o0c : NI) (za : NI) (zc : Int) (zd : Int) (zf : UM) (zb : LM) (r : (Int × Int × (List UT) × LM)) : Prop :=
 (
  (cloneE_P zb)∧(
  True))∧(
 (call_P o0c za zc zd zf zb)∧(
 ∃ x : (List UT),Wh (fun (s : Int × (List UT)) (o : (Int × (List UT)) ⊕ ((List UT)))=>kview_l1 o0c za zc zd zf zb s.1 s.2 o) ((0,[]) : Int × (List UT)) x∧kview_k1a zc zd zb x r))
end Go.E
namespace Go.E
open Go
abbrev TT := Int × Int × Int × Int × Bool × Int × NI × Int × List Int × List Int × List Int × LM
abbrev TM := List (Int × TT)
def T0 : TT := (0,0,0,0,false,0,(fun _=>0),0,[],[],[],[])
def tAt (m : TM) (k : Int) : TT := mget ieq m k T0
def kopE (m : TM) (k : Int) : LM := if (tAt m k).2.2.2.2.1=true then [updI (updI (fun _=>0) 0 k) 1 (tAt m k).2.2.2.1] else []
def kopen_F (c cl : Nat → Int) (ti la : Int) (m : TM) (tr : LM) : LM := (skeys m).flatMap (kopE m)
def kopen_P (c cl : Nat → Int) (ti la : Int) (m : TM) (tr : LM) : Prop := skeysP m
theorem skeys_len {α : Type} (m : List (Int × α)) : (skeys m).length=m.length := by
 unfold skeys
 rw [List.length_mergeSort,List.length_map]
theorem take_step {l : List Int} {k : Nat} (h : k < l.length) : l.take (k + 1)=l.take k++[l[k]!] := by
 rw [List.take_add_one,List.getElem?_eq_getElem h,getElem!_pos l k h]
 rfl
theorem kopE_len (m : TM) (l : List Int) : (l.flatMap (kopE m)).length≤l.length := by
 induction l with
 | nil=>exact Nat.le_refl _
 | cons a l ih =>
  rw [List.flatMap_cons,List.length_append,List.length_cons]
  have : (kopE m a).length≤1 := by
   unfold kopE
   by_cases h : (tAt m a).2.2.2.2.1=true
   ·rw [if_pos h]; exact Nat.le_refl _
   ·rw [if_neg h]; exact Nat.zero_le _
  omega
theorem kopen_ok (c cl : Nat → Int) (ti la : Int) (m : TM) (tr : LM) (hP : kopen_P c cl ti la m tr) : kopen_S c cl ti la m tr (kopen_F c cl ti la m tr) := by
 have hl := hP.2
 have hs := skeys_len m
 refine ⟨⟨hP,trivial⟩,kopen_F c cl ti la m tr,?_,rfl⟩
 have hf : ∀ k : Nat,k < (skeys m).length → kopen_l1 c cl ti la m tr (((skeys m).take k).flatMap (kopE m)) (k : Int) (.inl (((skeys m).take (k + 1)).flatMap (kopE m),((k + 1 : Nat) : Int))) := by
  intro k hk
  have hle := kopE_len m ((skeys m).take k)
  have htl : ((skeys m).take k).length=k := by rw [List.length_take]; omega
  have e : ((k + 1 : Nat) : Int)=(k : Int) + 1 := by omega
  unfold kopen_l1 call_F
  rw [if_pos (by omega),Int.toNat_natCast]
  refine ⟨⟨by omega,by omega⟩,_,rfl,?_⟩
  rw [take_step hk,List.flatMap_append,e]
  have e2 : [(skeys m)[k]!].flatMap (kopE m)=kopE m (skeys m)[k]! := by simp
  rw [e2]
  unfold kopE tAt T0
  by_cases h : (mget ieq m (skeys m)[k]! (0,0,0,0,false,0,(fun _=>0),0,[],[],[],[])).2.2.2.2.1=true
  ·rw [if_pos h,if_pos h]
   refine ⟨?_,?_,rfl⟩
   ·show ((((skeys m).take k).flatMap (kopE m)).length + 1) * 16≤_
    omega
   ·unfold inI64; omega
  ·rw [if_neg h,if_neg h,List.append_nil]
   exact ⟨by unfold inI64; omega,rfl⟩
 have := Wh.fold (f := fun (s : LM × Int) o=>kopen_l1 c cl ti la m tr s.1 s.2 o) (skeys m).length (fun k=>(((skeys m).take k).flatMap (kopE m),(k : Int))) (kopen_F c cl ti la m tr) hf (by
  show kopen_l1 c cl ti la m tr _ _ _
  unfold kopen_l1 call_F
  rw [if_neg (by omega),List.take_length]
  rfl)
 exact this
def TL (m : TM) (k : Int) : Prop := (tAt m k).2.2.2.2.2.2.2.2.1.length≤1000000000∧(tAt m k).2.2.2.2.2.2.2.2.2.1.length≤1000000000∧(tAt m k).2.2.2.2.2.2.2.2.2.2.1.length≤1000000000∧(tAt m k).2.2.2.2.2.2.2.2.2.2.2.length≤1000000000
def kview_F (c cl : Nat → Int) (ti la : Int) (m : TM) (tr : LM) : Int × Int × List TT × LM := (ti,la,(skeys m).map (tAt m),tr)
def kview_P (c cl : Nat → Int) (ti la : Int) (m : TM) (tr : LM) : Prop := skeysP m∧m.length≤1000000000∧tr.length≤1000000000∧∀ k,TL m k
theorem kview_ok (c cl : Nat → Int) (ti la : Int) (m : TM) (tr : LM) (hP : kview_P c cl ti la m tr) : kview_S c cl ti la m tr (kview_F c cl ti la m tr) := by
 obtain ⟨hk,hm,htr,hT⟩ := hP
 have hs := skeys_len m
 refine ⟨⟨htr,trivial⟩,⟨hk,trivial⟩,(skeys m).map (tAt m),?_,rfl⟩
 have hf : ∀ k : Nat,k < (skeys m).length → kview_l1 c cl ti la m tr (k : Int) (((skeys m).take k).map (tAt m)) (.inl (((k + 1 : Nat) : Int),((skeys m).take (k + 1)).map (tAt m))) := by
  intro k hk
  have htl : (((skeys m).take k).map (tAt m)).length=k := by rw [List.length_map,List.length_take]; omega
  have e : ((k + 1 : Nat) : Int)=(k : Int) + 1 := by omega
  unfold kview_l1 call_F
  rw [if_pos (by omega),Int.toNat_natCast]
  have h4 := hT (skeys m)[k]!
  refine ⟨⟨by omega,by omega⟩,_,rfl,h4.1,h4.2.1,h4.2.2.1,h4.2.2.2,by rw [htl]; omega,by unfold inI64; omega,?_⟩
  rw [take_step hk,List.map_append,e]
  rfl
 have := Wh.fold (f := fun (s : Int × List TT) o=>kview_l1 c cl ti la m tr s.1 s.2 o) (skeys m).length (fun k=>((k : Int),((skeys m).take k).map (tAt m))) ((skeys m).map (tAt m)) hf (by
  show kview_l1 c cl ti la m tr _ _ _
  unfold kview_l1 call_F
  rw [if_neg (by omega),List.take_length])
 exact this
end Go.E
namespace Go.E
open Go
def kprobed_S (o0c : NI) (za : NI) (zd : Int) (zf : Int) (zc : UM) (zb : LM) (m1 : NI) (r : LM × UM × LM × NI) : Prop :=
 if ((nz (o0c 1)))=true then
  (kopen_P o0c za zd zf zc zb)∧(
  (live_P m1 (kopen_F o0c za zd zf zc zb))∧(
  if ((live_F m1 (kopen_F o0c za zd zf zc zb)))=true then
   if ((back_F m1))=true then
    (kabort_P o0c za zd zf zc zb ((victim_F m1).1) 4 ([1]))∧(
    r=(((kabort_F o0c za zd zf zc zb ((victim_F m1).1) 4 ([1])).1,(kabort_F o0c za zd zf zc zb ((victim_F m1).1) 4 ([1])).2.2.1,(kabort_F o0c za zd zf zc zb ((victim_F m1).1) 4 ([1])).2.2.2.1,(kabort_F o0c za zd zf zc zb ((victim_F m1).1) 4 ([1])).2.2.2.2)))
   else
    ∃ zo : UT,zo=mget ieq zc (m1 9) (0,0,0,0,false,0,(fun _=>0),0,[],[],[],[])∧(
    if ((!((zo).2.2.2.2.1)) || ((!(decide (m1 10=0))) && (!(decide (m1 10=(zo).2.2.2.1)))))=true then
     r=(([],zc,zb,za))
    else
     if (onward_F ((zo).2.2.2.2.2.1) m1).2=0 then
      r=(([(onward_F ((zo).2.2.2.2.2.1) m1).1],zc,zb,za))
     else
      r=(([],zc,zb,za)))
  else
   r=(([],zc,zb,za))))
 else
  r=(([],zc,zb,za))
def kprobed_F (o0c : NI) (za : NI) (zd : Int) (zf : Int) (zc : UM) (zb : LM) (m1 : NI) : LM × UM × LM × NI :=
 if ((nz (o0c 1)))=true then
  if ((live_F m1 (kopen_F o0c za zd zf zc zb)))=true then
   if ((back_F m1))=true then
    ((kabort_F o0c za zd zf zc zb ((victim_F m1).1) 4 ([1])).1,(kabort_F o0c za zd zf zc zb ((victim_F m1).1) 4 ([1])).2.2.1,(kabort_F o0c za zd zf zc zb ((victim_F m1).1) 4 ([1])).2.2.2.1,(kabort_F o0c za zd zf zc zb ((victim_F m1).1) 4 ([1])).2.2.2.2)
   else
    (fun (zo : UT) =>
     if ((!((zo).2.2.2.2.1)) || ((!(decide (m1 10=0))) && (!(decide (m1 10=(zo).2.2.2.1)))))=true then
      ([],zc,zb,za)
     else
      if (onward_F ((zo).2.2.2.2.2.1) m1).2=0 then
       ([(onward_F ((zo).2.2.2.2.2.1) m1).1],zc,zb,za)
      else
       ([],zc,zb,za)) (mget ieq zc (m1 9) (0,0,0,0,false,0,(fun _=>0),0,[],[],[],[]))
  else
   ([],zc,zb,za)
 else
  ([],zc,zb,za)
def kprobed_P (o0c : NI) (za : NI) (zd : Int) (zf : Int) (zc : UM) (zb : LM) (m1 : NI) : Prop :=
 if ((nz (o0c 1)))=true then
  (kopen_P o0c za zd zf zc zb)∧(
  (live_P m1 (kopen_F o0c za zd zf zc zb))∧(
  if ((live_F m1 (kopen_F o0c za zd zf zc zb)))=true then
   if ((back_F m1))=true then
    (kabort_P o0c za zd zf zc zb ((victim_F m1).1) 4 ([1]))∧(
    True)
   else
    (fun (zo : UT) =>
     if ((!((zo).2.2.2.2.1)) || ((!(decide (m1 10=0))) && (!(decide (m1 10=(zo).2.2.2.1)))))=true then
      True
     else
      if (onward_F ((zo).2.2.2.2.2.1) m1).2=0 then
       True
      else
       True) (mget ieq zc (m1 9) (0,0,0,0,false,0,(fun _=>0),0,[],[],[],[]))
  else
   True))
 else
  True
theorem kprobed_ok (o0c : NI) (za : NI) (zd : Int) (zf : Int) (zc : UM) (zb : LM) (m1 : NI) (hP : kprobed_P o0c za zd zf zc zb m1) : kprobed_S o0c za zd zf zc zb m1 (kprobed_F o0c za zd zf zc zb m1) := by
 obtain ⟨r,hr⟩ : ∃ r,r=kprobed_F o0c za zd zf zc zb m1 := ⟨_,rfl⟩
 rw [← hr]
 unfold kprobed_F at hr
 unfold kprobed_S
 unfold kprobed_P at hP
 by_cases hp89 : ((nz (o0c 1)))=true
 ·rw [if_pos hp89] at hr hP ⊢
  obtain ⟨hq0,hP⟩ := hP
  refine ⟨hq0,?_⟩
  obtain ⟨hq0,hP⟩ := hP
  refine ⟨hq0,?_⟩
  by_cases hp90 : ((live_F m1 (kopen_F o0c za zd zf zc zb)))=true
  ·rw [if_pos hp90] at hr hP ⊢
   by_cases hp91 : ((back_F m1))=true
   ·rw [if_pos hp91] at hr hP ⊢
    obtain ⟨hq0,hP⟩ := hP
    refine ⟨hq0,?_⟩
    exact hr
   ·rw [if_neg hp91] at hr hP ⊢
    obtain ⟨zo,htn13⟩ : ∃ x_,x_=mget ieq zc (m1 9) (0,0,0,0,false,0,(fun _=>0),0,[],[],[],[]) := ⟨_,rfl⟩
    refine ⟨zo,htn13,?_⟩
    try rw [← htn13] at hr
    try dsimp only at hr
    try rw [← htn13] at hP
    try dsimp only at hP
    by_cases hp92 : ((!((zo).2.2.2.2.1)) || ((!(decide (m1 10=0))) && (!(decide (m1 10=(zo).2.2.2.1)))))=true
    ·rw [if_pos hp92] at hr hP ⊢
     exact hr
    ·rw [if_neg hp92] at hr hP ⊢
     by_cases hp93 : (onward_F ((zo).2.2.2.2.2.1) m1).2=0
     ·rw [if_pos hp93] at hr hP ⊢
      exact hr
     ·rw [if_neg hp93] at hr hP ⊢
      exact hr
  ·rw [if_neg hp90] at hr hP ⊢
   exact hr
 ·rw [if_neg hp89] at hr hP ⊢
  exact hr
def khandle_S (o0c : NI) (za : NI) (zd : Int) (zf : Int) (zc : UM) (zb : LM) (m1 : NI) (r : LM × Int × UM × LM × NI) : Prop :=
 if (msgOk_F m1)=0 then
  if ((!(decide (m1 2=0))) || (decide (o0c 0 < m1 1)))=true then
   r=(([],1,zc,zb,za))
  else
   if m1 0=11 then
    (kprobed_P o0c za zd zf zc zb m1)∧(
    r=(((kprobed_F o0c za zd zf zc zb m1).1,0,(kprobed_F o0c za zd zf zc zb m1).2.1,(kprobed_F o0c za zd zf zc zb m1).2.2.1,(kprobed_F o0c za zd zf zc zb m1).2.2.2)))
   else
    ∃ tn9 : UT,tn9=mget ieq zc (m1 3) (0,0,0,0,false,0,(fun _=>0),0,[],[],[],[])∧(
    if ((mhas ieq zc (m1 3)))=true then
     if m1 0=2 then
      (tanswered_P ((tn9).1) ((tn9).2.1) ((tn9).2.2.1) ((tn9).2.2.2.1) ((tn9).2.2.2.2.1) ((tn9).2.2.2.2.2.1) ((tn9).2.2.2.2.2.2.1) ((tn9).2.2.2.2.2.2.2.1) ((tn9).2.2.2.2.2.2.2.2.1) ((tn9).2.2.2.2.2.2.2.2.2.1) ((tn9).2.2.2.2.2.2.2.2.2.2.1) ((tn9).2.2.2.2.2.2.2.2.2.2.2) m1)∧(
      ∃ zg : UT × Int,zg=(tanswered_F ((tn9).1) ((tn9).2.1) ((tn9).2.2.1) ((tn9).2.2.2.1) ((tn9).2.2.2.2.1) ((tn9).2.2.2.2.2.1) ((tn9).2.2.2.2.2.2.1) ((tn9).2.2.2.2.2.2.2.1) ((tn9).2.2.2.2.2.2.2.2.1) ((tn9).2.2.2.2.2.2.2.2.2.1) ((tn9).2.2.2.2.2.2.2.2.2.2.1) ((tn9).2.2.2.2.2.2.2.2.2.2.2) m1)∧(
      if zg.2=0 then
       (kset_P o0c za zd zf zc zb zg.1.1 zg.1.2.1 zg.1.2.2.1 zg.1.2.2.2.1 zg.1.2.2.2.2.1 zg.1.2.2.2.2.2.1 zg.1.2.2.2.2.2.2.1 zg.1.2.2.2.2.2.2.2.1 zg.1.2.2.2.2.2.2.2.2.1 zg.1.2.2.2.2.2.2.2.2.2.1 zg.1.2.2.2.2.2.2.2.2.2.2.1 zg.1.2.2.2.2.2.2.2.2.2.2.2)∧(
       ((((kset_F o0c za zd zf zc zb zg.1.1 zg.1.2.1 zg.1.2.2.1 zg.1.2.2.2.1 zg.1.2.2.2.2.1 zg.1.2.2.2.2.2.1 zg.1.2.2.2.2.2.2.1 zg.1.2.2.2.2.2.2.2.1 zg.1.2.2.2.2.2.2.2.2.1 zg.1.2.2.2.2.2.2.2.2.2.1 zg.1.2.2.2.2.2.2.2.2.2.2.1 zg.1.2.2.2.2.2.2.2.2.2.2.2).2.1).length + 1) * 56≤140737488355328)∧(
       r=(([],0,(kset_F o0c za zd zf zc zb zg.1.1 zg.1.2.1 zg.1.2.2.1 zg.1.2.2.2.1 zg.1.2.2.2.2.1 zg.1.2.2.2.2.2.1 zg.1.2.2.2.2.2.2.1 zg.1.2.2.2.2.2.2.2.1 zg.1.2.2.2.2.2.2.2.2.1 zg.1.2.2.2.2.2.2.2.2.2.1 zg.1.2.2.2.2.2.2.2.2.2.2.1 zg.1.2.2.2.2.2.2.2.2.2.2.2).1,((kset_F o0c za zd zf zc zb zg.1.1 zg.1.2.1 zg.1.2.2.1 zg.1.2.2.2.1 zg.1.2.2.2.2.1 zg.1.2.2.2.2.2.1 zg.1.2.2.2.2.2.2.1 zg.1.2.2.2.2.2.2.2.1 zg.1.2.2.2.2.2.2.2.2.1 zg.1.2.2.2.2.2.2.2.2.2.1 zg.1.2.2.2.2.2.2.2.2.2.2.1 zg.1.2.2.2.2.2.2.2.2.2.2.2).2.1++[(updI (updRI (updI (updI (fun _=>0) 0 3) 2 zg.1.1) 3 2 ((tn9).2.2.2.2.2.2.1)) 5 (m1 7))]),(kset_F o0c za zd zf zc zb zg.1.1 zg.1.2.1 zg.1.2.2.1 zg.1.2.2.2.1 zg.1.2.2.2.2.1 zg.1.2.2.2.2.2.1 zg.1.2.2.2.2.2.2.1 zg.1.2.2.2.2.2.2.2.1 zg.1.2.2.2.2.2.2.2.2.1 zg.1.2.2.2.2.2.2.2.2.2.1 zg.1.2.2.2.2.2.2.2.2.2.2.1 zg.1.2.2.2.2.2.2.2.2.2.2.2).2.2))))
      else
       r=(([],0,zc,zb,za))))
     else
      if m1 0=3 then
       (tanswered_P ((tn9).1) ((tn9).2.1) ((tn9).2.2.1) ((tn9).2.2.2.1) ((tn9).2.2.2.2.1) ((tn9).2.2.2.2.2.1) ((tn9).2.2.2.2.2.2.1) ((tn9).2.2.2.2.2.2.2.1) ((tn9).2.2.2.2.2.2.2.2.1) ((tn9).2.2.2.2.2.2.2.2.2.1) ((tn9).2.2.2.2.2.2.2.2.2.2.1) ((tn9).2.2.2.2.2.2.2.2.2.2.2) m1)∧(
       ∃ zh : UT × Int,zh=(tanswered_F ((tn9).1) ((tn9).2.1) ((tn9).2.2.1) ((tn9).2.2.2.1) ((tn9).2.2.2.2.1) ((tn9).2.2.2.2.2.1) ((tn9).2.2.2.2.2.2.1) ((tn9).2.2.2.2.2.2.2.1) ((tn9).2.2.2.2.2.2.2.2.1) ((tn9).2.2.2.2.2.2.2.2.2.1) ((tn9).2.2.2.2.2.2.2.2.2.2.1) ((tn9).2.2.2.2.2.2.2.2.2.2.2) m1)∧(
       if zh.2=0 then
        (kset_P o0c za zd zf zc zb zh.1.1 zh.1.2.1 zh.1.2.2.1 zh.1.2.2.2.1 zh.1.2.2.2.2.1 zh.1.2.2.2.2.2.1 zh.1.2.2.2.2.2.2.1 zh.1.2.2.2.2.2.2.2.1 zh.1.2.2.2.2.2.2.2.2.1 zh.1.2.2.2.2.2.2.2.2.2.1 zh.1.2.2.2.2.2.2.2.2.2.2.1 zh.1.2.2.2.2.2.2.2.2.2.2.2)∧(
        ((((kset_F o0c za zd zf zc zb zh.1.1 zh.1.2.1 zh.1.2.2.1 zh.1.2.2.2.1 zh.1.2.2.2.2.1 zh.1.2.2.2.2.2.1 zh.1.2.2.2.2.2.2.1 zh.1.2.2.2.2.2.2.2.1 zh.1.2.2.2.2.2.2.2.2.1 zh.1.2.2.2.2.2.2.2.2.2.1 zh.1.2.2.2.2.2.2.2.2.2.2.1 zh.1.2.2.2.2.2.2.2.2.2.2.2).2.1).length + 1) * 56≤140737488355328)∧(
        r=(([],0,(kset_F o0c za zd zf zc zb zh.1.1 zh.1.2.1 zh.1.2.2.1 zh.1.2.2.2.1 zh.1.2.2.2.2.1 zh.1.2.2.2.2.2.1 zh.1.2.2.2.2.2.2.1 zh.1.2.2.2.2.2.2.2.1 zh.1.2.2.2.2.2.2.2.2.1 zh.1.2.2.2.2.2.2.2.2.2.1 zh.1.2.2.2.2.2.2.2.2.2.2.1 zh.1.2.2.2.2.2.2.2.2.2.2.2).1,((kset_F o0c za zd zf zc zb zh.1.1 zh.1.2.1 zh.1.2.2.1 zh.1.2.2.2.1 zh.1.2.2.2.2.1 zh.1.2.2.2.2.2.1 zh.1.2.2.2.2.2.2.1 zh.1.2.2.2.2.2.2.2.1 zh.1.2.2.2.2.2.2.2.2.1 zh.1.2.2.2.2.2.2.2.2.2.1 zh.1.2.2.2.2.2.2.2.2.2.2.1 zh.1.2.2.2.2.2.2.2.2.2.2.2).2.1++[(updI (updRI (updI (updI (fun _=>0) 0 4) 2 zh.1.1) 3 2 ((tn9).2.2.2.2.2.2.1)) 6 (m1 8))]),(kset_F o0c za zd zf zc zb zh.1.1 zh.1.2.1 zh.1.2.2.1 zh.1.2.2.2.1 zh.1.2.2.2.2.1 zh.1.2.2.2.2.2.1 zh.1.2.2.2.2.2.2.1 zh.1.2.2.2.2.2.2.2.1 zh.1.2.2.2.2.2.2.2.2.1 zh.1.2.2.2.2.2.2.2.2.2.1 zh.1.2.2.2.2.2.2.2.2.2.2.1 zh.1.2.2.2.2.2.2.2.2.2.2.2).2.2))))
       else
        r=(([],0,zc,zb,za))))
      else
       if m1 0=5 then
        (tvote_P ((tn9).1) ((tn9).2.1) ((tn9).2.2.1) ((tn9).2.2.2.1) ((tn9).2.2.2.2.1) ((tn9).2.2.2.2.2.1) ((tn9).2.2.2.2.2.2.1) ((tn9).2.2.2.2.2.2.2.1) ((tn9).2.2.2.2.2.2.2.2.1) ((tn9).2.2.2.2.2.2.2.2.2.1) ((tn9).2.2.2.2.2.2.2.2.2.2.1) ((tn9).2.2.2.2.2.2.2.2.2.2.2) m1)∧(
        ∃ zi : UT × LM × Int,zi=(tvote_F ((tn9).1) ((tn9).2.1) ((tn9).2.2.1) ((tn9).2.2.2.1) ((tn9).2.2.2.2.1) ((tn9).2.2.2.2.2.1) ((tn9).2.2.2.2.2.2.1) ((tn9).2.2.2.2.2.2.2.1) ((tn9).2.2.2.2.2.2.2.2.1) ((tn9).2.2.2.2.2.2.2.2.2.1) ((tn9).2.2.2.2.2.2.2.2.2.2.1) ((tn9).2.2.2.2.2.2.2.2.2.2.2) m1)∧(
        if zi.2.2=0 then
         (kset_P o0c za zd zf zc zb zi.1.1 zi.1.2.1 zi.1.2.2.1 zi.1.2.2.2.1 zi.1.2.2.2.2.1 zi.1.2.2.2.2.2.1 zi.1.2.2.2.2.2.2.1 zi.1.2.2.2.2.2.2.2.1 zi.1.2.2.2.2.2.2.2.2.1 zi.1.2.2.2.2.2.2.2.2.2.1 zi.1.2.2.2.2.2.2.2.2.2.2.1 zi.1.2.2.2.2.2.2.2.2.2.2.2)∧(
         r=((zi.2.1,0,(kset_F o0c za zd zf zc zb zi.1.1 zi.1.2.1 zi.1.2.2.1 zi.1.2.2.2.1 zi.1.2.2.2.2.1 zi.1.2.2.2.2.2.1 zi.1.2.2.2.2.2.2.1 zi.1.2.2.2.2.2.2.2.1 zi.1.2.2.2.2.2.2.2.2.1 zi.1.2.2.2.2.2.2.2.2.2.1 zi.1.2.2.2.2.2.2.2.2.2.2.1 zi.1.2.2.2.2.2.2.2.2.2.2.2).1,(kset_F o0c za zd zf zc zb zi.1.1 zi.1.2.1 zi.1.2.2.1 zi.1.2.2.2.1 zi.1.2.2.2.2.1 zi.1.2.2.2.2.2.1 zi.1.2.2.2.2.2.2.1 zi.1.2.2.2.2.2.2.2.1 zi.1.2.2.2.2.2.2.2.2.1 zi.1.2.2.2.2.2.2.2.2.2.1 zi.1.2.2.2.2.2.2.2.2.2.2.1 zi.1.2.2.2.2.2.2.2.2.2.2.2).2.1,(kset_F o0c za zd zf zc zb zi.1.1 zi.1.2.1 zi.1.2.2.1 zi.1.2.2.2.1 zi.1.2.2.2.2.1 zi.1.2.2.2.2.2.1 zi.1.2.2.2.2.2.2.1 zi.1.2.2.2.2.2.2.2.1 zi.1.2.2.2.2.2.2.2.2.1 zi.1.2.2.2.2.2.2.2.2.2.1 zi.1.2.2.2.2.2.2.2.2.2.2.1 zi.1.2.2.2.2.2.2.2.2.2.2.2).2.2)))
        else
         r=(([],0,zc,zb,za))))
       else
        if m1 0=7 then
         (tack_P ((tn9).1) ((tn9).2.1) ((tn9).2.2.1) ((tn9).2.2.2.1) ((tn9).2.2.2.2.1) ((tn9).2.2.2.2.2.1) ((tn9).2.2.2.2.2.2.1) ((tn9).2.2.2.2.2.2.2.1) ((tn9).2.2.2.2.2.2.2.2.1) ((tn9).2.2.2.2.2.2.2.2.2.1) ((tn9).2.2.2.2.2.2.2.2.2.2.1) ((tn9).2.2.2.2.2.2.2.2.2.2.2) m1)∧(
         ∃ zj : UT × Int,zj=(tack_F ((tn9).1) ((tn9).2.1) ((tn9).2.2.1) ((tn9).2.2.2.1) ((tn9).2.2.2.2.1) ((tn9).2.2.2.2.2.1) ((tn9).2.2.2.2.2.2.1) ((tn9).2.2.2.2.2.2.2.1) ((tn9).2.2.2.2.2.2.2.2.1) ((tn9).2.2.2.2.2.2.2.2.2.1) ((tn9).2.2.2.2.2.2.2.2.2.2.1) ((tn9).2.2.2.2.2.2.2.2.2.2.2) m1)∧(
         if zj.2=0 then
          (kset_P o0c za zd zf zc zb zj.1.1 zj.1.2.1 zj.1.2.2.1 zj.1.2.2.2.1 zj.1.2.2.2.2.1 zj.1.2.2.2.2.2.1 zj.1.2.2.2.2.2.2.1 zj.1.2.2.2.2.2.2.2.1 zj.1.2.2.2.2.2.2.2.2.1 zj.1.2.2.2.2.2.2.2.2.2.1 zj.1.2.2.2.2.2.2.2.2.2.2.1 zj.1.2.2.2.2.2.2.2.2.2.2.2)∧(
          r=(([],0,(kset_F o0c za zd zf zc zb zj.1.1 zj.1.2.1 zj.1.2.2.1 zj.1.2.2.2.1 zj.1.2.2.2.2.1 zj.1.2.2.2.2.2.1 zj.1.2.2.2.2.2.2.1 zj.1.2.2.2.2.2.2.2.1 zj.1.2.2.2.2.2.2.2.2.1 zj.1.2.2.2.2.2.2.2.2.2.1 zj.1.2.2.2.2.2.2.2.2.2.2.1 zj.1.2.2.2.2.2.2.2.2.2.2.2).1,(kset_F o0c za zd zf zc zb zj.1.1 zj.1.2.1 zj.1.2.2.1 zj.1.2.2.2.1 zj.1.2.2.2.2.1 zj.1.2.2.2.2.2.1 zj.1.2.2.2.2.2.2.1 zj.1.2.2.2.2.2.2.2.1 zj.1.2.2.2.2.2.2.2.2.1 zj.1.2.2.2.2.2.2.2.2.2.1 zj.1.2.2.2.2.2.2.2.2.2.2.1 zj.1.2.2.2.2.2.2.2.2.2.2.2).2.1,(kset_F o0c za zd zf zc zb zj.1.1 zj.1.2.1 zj.1.2.2.1 zj.1.2.2.2.1 zj.1.2.2.2.2.1 zj.1.2.2.2.2.2.1 zj.1.2.2.2.2.2.2.1 zj.1.2.2.2.2.2.2.2.1 zj.1.2.2.2.2.2.2.2.2.1 zj.1.2.2.2.2.2.2.2.2.2.1 zj.1.2.2.2.2.2.2.2.2.2.2.1 zj.1.2.2.2.2.2.2.2.2.2.2.2).2.2)))
         else
          r=(([],0,zc,zb,za))))
        else
         if m1 0=9 then
          (kabort_P o0c za zd zf zc zb (m1 3) 5 ([1,2]))∧(
          r=(((kabort_F o0c za zd zf zc zb (m1 3) 5 ([1,2])).1,0,(kabort_F o0c za zd zf zc zb (m1 3) 5 ([1,2])).2.2.1,(kabort_F o0c za zd zf zc zb (m1 3) 5 ([1,2])).2.2.2.1,(kabort_F o0c za zd zf zc zb (m1 3) 5 ([1,2])).2.2.2.2)))
         else
          if m1 0=10 then
           (kwounded_P o0c za zd zf zc zb m1)∧(
           r=(((kwounded_F o0c za zd zf zc zb m1).1,0,(kwounded_F o0c za zd zf zc zb m1).2.1,(kwounded_F o0c za zd zf zc zb m1).2.2.1,(kwounded_F o0c za zd zf zc zb m1).2.2.2)))
          else
           r=(([],0,zc,zb,za))
    else
     r=(([],0,zc,zb,za)))
 else
  r=(([],(msgOk_F m1),zc,zb,za))
def khandle_F (o0c : NI) (za : NI) (zd : Int) (zf : Int) (zc : UM) (zb : LM) (m1 : NI) : LM × Int × UM × LM × NI :=
 if (msgOk_F m1)=0 then
  if ((!(decide (m1 2=0))) || (decide (o0c 0 < m1 1)))=true then
   ([],1,zc,zb,za)
  else
   if m1 0=11 then
    ((kprobed_F o0c za zd zf zc zb m1).1,0,(kprobed_F o0c za zd zf zc zb m1).2.1,(kprobed_F o0c za zd zf zc zb m1).2.2.1,(kprobed_F o0c za zd zf zc zb m1).2.2.2)
   else
    (fun (tn9 : UT) =>
     if ((mhas ieq zc (m1 3)))=true then
      if m1 0=2 then
       (fun (zg : UT × Int) =>
        if zg.2=0 then
         ([],0,(kset_F o0c za zd zf zc zb zg.1.1 zg.1.2.1 zg.1.2.2.1 zg.1.2.2.2.1 zg.1.2.2.2.2.1 zg.1.2.2.2.2.2.1 zg.1.2.2.2.2.2.2.1 zg.1.2.2.2.2.2.2.2.1 zg.1.2.2.2.2.2.2.2.2.1 zg.1.2.2.2.2.2.2.2.2.2.1 zg.1.2.2.2.2.2.2.2.2.2.2.1 zg.1.2.2.2.2.2.2.2.2.2.2.2).1,((kset_F o0c za zd zf zc zb zg.1.1 zg.1.2.1 zg.1.2.2.1 zg.1.2.2.2.1 zg.1.2.2.2.2.1 zg.1.2.2.2.2.2.1 zg.1.2.2.2.2.2.2.1 zg.1.2.2.2.2.2.2.2.1 zg.1.2.2.2.2.2.2.2.2.1 zg.1.2.2.2.2.2.2.2.2.2.1 zg.1.2.2.2.2.2.2.2.2.2.2.1 zg.1.2.2.2.2.2.2.2.2.2.2.2).2.1++[(updI (updRI (updI (updI (fun _=>0) 0 3) 2 zg.1.1) 3 2 ((tn9).2.2.2.2.2.2.1)) 5 (m1 7))]),(kset_F o0c za zd zf zc zb zg.1.1 zg.1.2.1 zg.1.2.2.1 zg.1.2.2.2.1 zg.1.2.2.2.2.1 zg.1.2.2.2.2.2.1 zg.1.2.2.2.2.2.2.1 zg.1.2.2.2.2.2.2.2.1 zg.1.2.2.2.2.2.2.2.2.1 zg.1.2.2.2.2.2.2.2.2.2.1 zg.1.2.2.2.2.2.2.2.2.2.2.1 zg.1.2.2.2.2.2.2.2.2.2.2.2).2.2)
        else
         ([],0,zc,zb,za)) ((tanswered_F ((tn9).1) ((tn9).2.1) ((tn9).2.2.1) ((tn9).2.2.2.1) ((tn9).2.2.2.2.1) ((tn9).2.2.2.2.2.1) ((tn9).2.2.2.2.2.2.1) ((tn9).2.2.2.2.2.2.2.1) ((tn9).2.2.2.2.2.2.2.2.1) ((tn9).2.2.2.2.2.2.2.2.2.1) ((tn9).2.2.2.2.2.2.2.2.2.2.1) ((tn9).2.2.2.2.2.2.2.2.2.2.2) m1))
      else
       if m1 0=3 then
        (fun (zh : UT × Int) =>
         if zh.2=0 then
          ([],0,(kset_F o0c za zd zf zc zb zh.1.1 zh.1.2.1 zh.1.2.2.1 zh.1.2.2.2.1 zh.1.2.2.2.2.1 zh.1.2.2.2.2.2.1 zh.1.2.2.2.2.2.2.1 zh.1.2.2.2.2.2.2.2.1 zh.1.2.2.2.2.2.2.2.2.1 zh.1.2.2.2.2.2.2.2.2.2.1 zh.1.2.2.2.2.2.2.2.2.2.2.1 zh.1.2.2.2.2.2.2.2.2.2.2.2).1,((kset_F o0c za zd zf zc zb zh.1.1 zh.1.2.1 zh.1.2.2.1 zh.1.2.2.2.1 zh.1.2.2.2.2.1 zh.1.2.2.2.2.2.1 zh.1.2.2.2.2.2.2.1 zh.1.2.2.2.2.2.2.2.1 zh.1.2.2.2.2.2.2.2.2.1 zh.1.2.2.2.2.2.2.2.2.2.1 zh.1.2.2.2.2.2.2.2.2.2.2.1 zh.1.2.2.2.2.2.2.2.2.2.2.2).2.1++[(updI (updRI (updI (updI (fun _=>0) 0 4) 2 zh.1.1) 3 2 ((tn9).2.2.2.2.2.2.1)) 6 (m1 8))]),(kset_F o0c za zd zf zc zb zh.1.1 zh.1.2.1 zh.1.2.2.1 zh.1.2.2.2.1 zh.1.2.2.2.2.1 zh.1.2.2.2.2.2.1 zh.1.2.2.2.2.2.2.1 zh.1.2.2.2.2.2.2.2.1 zh.1.2.2.2.2.2.2.2.2.1 zh.1.2.2.2.2.2.2.2.2.2.1 zh.1.2.2.2.2.2.2.2.2.2.2.1 zh.1.2.2.2.2.2.2.2.2.2.2.2).2.2)
         else
          ([],0,zc,zb,za)) ((tanswered_F ((tn9).1) ((tn9).2.1) ((tn9).2.2.1) ((tn9).2.2.2.1) ((tn9).2.2.2.2.1) ((tn9).2.2.2.2.2.1) ((tn9).2.2.2.2.2.2.1) ((tn9).2.2.2.2.2.2.2.1) ((tn9).2.2.2.2.2.2.2.2.1) ((tn9).2.2.2.2.2.2.2.2.2.1) ((tn9).2.2.2.2.2.2.2.2.2.2.1) ((tn9).2.2.2.2.2.2.2.2.2.2.2) m1))
       else
        if m1 0=5 then
         (fun (zi : UT × LM × Int) =>
          if zi.2.2=0 then
           (zi.2.1,0,(kset_F o0c za zd zf zc zb zi.1.1 zi.1.2.1 zi.1.2.2.1 zi.1.2.2.2.1 zi.1.2.2.2.2.1 zi.1.2.2.2.2.2.1 zi.1.2.2.2.2.2.2.1 zi.1.2.2.2.2.2.2.2.1 zi.1.2.2.2.2.2.2.2.2.1 zi.1.2.2.2.2.2.2.2.2.2.1 zi.1.2.2.2.2.2.2.2.2.2.2.1 zi.1.2.2.2.2.2.2.2.2.2.2.2).1,(kset_F o0c za zd zf zc zb zi.1.1 zi.1.2.1 zi.1.2.2.1 zi.1.2.2.2.1 zi.1.2.2.2.2.1 zi.1.2.2.2.2.2.1 zi.1.2.2.2.2.2.2.1 zi.1.2.2.2.2.2.2.2.1 zi.1.2.2.2.2.2.2.2.2.1 zi.1.2.2.2.2.2.2.2.2.2.1 zi.1.2.2.2.2.2.2.2.2.2.2.1 zi.1.2.2.2.2.2.2.2.2.2.2.2).2.1,(kset_F o0c za zd zf zc zb zi.1.1 zi.1.2.1 zi.1.2.2.1 zi.1.2.2.2.1 zi.1.2.2.2.2.1 zi.1.2.2.2.2.2.1 zi.1.2.2.2.2.2.2.1 zi.1.2.2.2.2.2.2.2.1 zi.1.2.2.2.2.2.2.2.2.1 zi.1.2.2.2.2.2.2.2.2.2.1 zi.1.2.2.2.2.2.2.2.2.2.2.1 zi.1.2.2.2.2.2.2.2.2.2.2.2).2.2)
          else
           ([],0,zc,zb,za)) ((tvote_F ((tn9).1) ((tn9).2.1) ((tn9).2.2.1) ((tn9).2.2.2.1) ((tn9).2.2.2.2.1) ((tn9).2.2.2.2.2.1) ((tn9).2.2.2.2.2.2.1) ((tn9).2.2.2.2.2.2.2.1) ((tn9).2.2.2.2.2.2.2.2.1) ((tn9).2.2.2.2.2.2.2.2.2.1) ((tn9).2.2.2.2.2.2.2.2.2.2.1) ((tn9).2.2.2.2.2.2.2.2.2.2.2) m1))
        else
         if m1 0=7 then
          (fun (zj : UT × Int) =>
           if zj.2=0 then
            ([],0,(kset_F o0c za zd zf zc zb zj.1.1 zj.1.2.1 zj.1.2.2.1 zj.1.2.2.2.1 zj.1.2.2.2.2.1 zj.1.2.2.2.2.2.1 zj.1.2.2.2.2.2.2.1 zj.1.2.2.2.2.2.2.2.1 zj.1.2.2.2.2.2.2.2.2.1 zj.1.2.2.2.2.2.2.2.2.2.1 zj.1.2.2.2.2.2.2.2.2.2.2.1 zj.1.2.2.2.2.2.2.2.2.2.2.2).1,(kset_F o0c za zd zf zc zb zj.1.1 zj.1.2.1 zj.1.2.2.1 zj.1.2.2.2.1 zj.1.2.2.2.2.1 zj.1.2.2.2.2.2.1 zj.1.2.2.2.2.2.2.1 zj.1.2.2.2.2.2.2.2.1 zj.1.2.2.2.2.2.2.2.2.1 zj.1.2.2.2.2.2.2.2.2.2.1 zj.1.2.2.2.2.2.2.2.2.2.2.1 zj.1.2.2.2.2.2.2.2.2.2.2.2).2.1,(kset_F o0c za zd zf zc zb zj.1.1 zj.1.2.1 zj.1.2.2.1 zj.1.2.2.2.1 zj.1.2.2.2.2.1 zj.1.2.2.2.2.2.1 zj.1.2.2.2.2.2.2.1 zj.1.2.2.2.2.2.2.2.1 zj.1.2.2.2.2.2.2.2.2.1 zj.1.2.2.2.2.2.2.2.2.2.1 zj.1.2.2.2.2.2.2.2.2.2.2.1 zj.1.2.2.2.2.2.2.2.2.2.2.2).2.2)
           else
            ([],0,zc,zb,za)) ((tack_F ((tn9).1) ((tn9).2.1) ((tn9).2.2.1) ((tn9).2.2.2.1) ((tn9).2.2.2.2.1) ((tn9).2.2.2.2.2.1) ((tn9).2.2.2.2.2.2.1) ((tn9).2.2.2.2.2.2.2.1) ((tn9).2.2.2.2.2.2.2.2.1) ((tn9).2.2.2.2.2.2.2.2.2.1) ((tn9).2.2.2.2.2.2.2.2.2.2.1) ((tn9).2.2.2.2.2.2.2.2.2.2.2) m1))
         else
          if m1 0=9 then
           ((kabort_F o0c za zd zf zc zb (m1 3) 5 ([1,2])).1,0,(kabort_F o0c za zd zf zc zb (m1 3) 5 ([1,2])).2.2.1,(kabort_F o0c za zd zf zc zb (m1 3) 5 ([1,2])).2.2.2.1,(kabort_F o0c za zd zf zc zb (m1 3) 5 ([1,2])).2.2.2.2)
          else
           if m1 0=10 then
            ((kwounded_F o0c za zd zf zc zb m1).1,0,(kwounded_F o0c za zd zf zc zb m1).2.1,(kwounded_F o0c za zd zf zc zb m1).2.2.1,(kwounded_F o0c za zd zf zc zb m1).2.2.2)
           else
            ([],0,zc,zb,za)
     else
      ([],0,zc,zb,za)) (mget ieq zc (m1 3) (0,0,0,0,false,0,(fun _=>0),0,[],[],[],[]))
 else
  ([],(msgOk_F m1),zc,zb,za)
def khandle_P (o0c : NI) (za : NI) (zd : Int) (zf : Int) (zc : UM) (zb : LM) (m1 : NI) : Prop :=
 if (msgOk_F m1)=0 then
  if ((!(decide (m1 2=0))) || (decide (o0c 0 < m1 1)))=true then
   True
  else
   if m1 0=11 then
    (kprobed_P o0c za zd zf zc zb m1)∧(
    True)
   else
    (fun (tn9 : UT) =>
     if ((mhas ieq zc (m1 3)))=true then
      if m1 0=2 then
       (tanswered_P ((tn9).1) ((tn9).2.1) ((tn9).2.2.1) ((tn9).2.2.2.1) ((tn9).2.2.2.2.1) ((tn9).2.2.2.2.2.1) ((tn9).2.2.2.2.2.2.1) ((tn9).2.2.2.2.2.2.2.1) ((tn9).2.2.2.2.2.2.2.2.1) ((tn9).2.2.2.2.2.2.2.2.2.1) ((tn9).2.2.2.2.2.2.2.2.2.2.1) ((tn9).2.2.2.2.2.2.2.2.2.2.2) m1)∧(
       (fun (zg : UT × Int) =>
        if zg.2=0 then
         (kset_P o0c za zd zf zc zb zg.1.1 zg.1.2.1 zg.1.2.2.1 zg.1.2.2.2.1 zg.1.2.2.2.2.1 zg.1.2.2.2.2.2.1 zg.1.2.2.2.2.2.2.1 zg.1.2.2.2.2.2.2.2.1 zg.1.2.2.2.2.2.2.2.2.1 zg.1.2.2.2.2.2.2.2.2.2.1 zg.1.2.2.2.2.2.2.2.2.2.2.1 zg.1.2.2.2.2.2.2.2.2.2.2.2)∧(
         ((((kset_F o0c za zd zf zc zb zg.1.1 zg.1.2.1 zg.1.2.2.1 zg.1.2.2.2.1 zg.1.2.2.2.2.1 zg.1.2.2.2.2.2.1 zg.1.2.2.2.2.2.2.1 zg.1.2.2.2.2.2.2.2.1 zg.1.2.2.2.2.2.2.2.2.1 zg.1.2.2.2.2.2.2.2.2.2.1 zg.1.2.2.2.2.2.2.2.2.2.2.1 zg.1.2.2.2.2.2.2.2.2.2.2.2).2.1).length + 1) * 56≤140737488355328)∧(
         True))
        else
         True) ((tanswered_F ((tn9).1) ((tn9).2.1) ((tn9).2.2.1) ((tn9).2.2.2.1) ((tn9).2.2.2.2.1) ((tn9).2.2.2.2.2.1) ((tn9).2.2.2.2.2.2.1) ((tn9).2.2.2.2.2.2.2.1) ((tn9).2.2.2.2.2.2.2.2.1) ((tn9).2.2.2.2.2.2.2.2.2.1) ((tn9).2.2.2.2.2.2.2.2.2.2.1) ((tn9).2.2.2.2.2.2.2.2.2.2.2) m1)))
      else
       if m1 0=3 then
        (tanswered_P ((tn9).1) ((tn9).2.1) ((tn9).2.2.1) ((tn9).2.2.2.1) ((tn9).2.2.2.2.1) ((tn9).2.2.2.2.2.1) ((tn9).2.2.2.2.2.2.1) ((tn9).2.2.2.2.2.2.2.1) ((tn9).2.2.2.2.2.2.2.2.1) ((tn9).2.2.2.2.2.2.2.2.2.1) ((tn9).2.2.2.2.2.2.2.2.2.2.1) ((tn9).2.2.2.2.2.2.2.2.2.2.2) m1)∧(
        (fun (zh : UT × Int) =>
         if zh.2=0 then
          (kset_P o0c za zd zf zc zb zh.1.1 zh.1.2.1 zh.1.2.2.1 zh.1.2.2.2.1 zh.1.2.2.2.2.1 zh.1.2.2.2.2.2.1 zh.1.2.2.2.2.2.2.1 zh.1.2.2.2.2.2.2.2.1 zh.1.2.2.2.2.2.2.2.2.1 zh.1.2.2.2.2.2.2.2.2.2.1 zh.1.2.2.2.2.2.2.2.2.2.2.1 zh.1.2.2.2.2.2.2.2.2.2.2.2)∧(
          ((((kset_F o0c za zd zf zc zb zh.1.1 zh.1.2.1 zh.1.2.2.1 zh.1.2.2.2.1 zh.1.2.2.2.2.1 zh.1.2.2.2.2.2.1 zh.1.2.2.2.2.2.2.1 zh.1.2.2.2.2.2.2.2.1 zh.1.2.2.2.2.2.2.2.2.1 zh.1.2.2.2.2.2.2.2.2.2.1 zh.1.2.2.2.2.2.2.2.2.2.2.1 zh.1.2.2.2.2.2.2.2.2.2.2.2).2.1).length + 1) * 56≤140737488355328)∧(
          True))
         else
          True) ((tanswered_F ((tn9).1) ((tn9).2.1) ((tn9).2.2.1) ((tn9).2.2.2.1) ((tn9).2.2.2.2.1) ((tn9).2.2.2.2.2.1) ((tn9).2.2.2.2.2.2.1) ((tn9).2.2.2.2.2.2.2.1) ((tn9).2.2.2.2.2.2.2.2.1) ((tn9).2.2.2.2.2.2.2.2.2.1) ((tn9).2.2.2.2.2.2.2.2.2.2.1) ((tn9).2.2.2.2.2.2.2.2.2.2.2) m1)))
       else
        if m1 0=5 then
         (tvote_P ((tn9).1) ((tn9).2.1) ((tn9).2.2.1) ((tn9).2.2.2.1) ((tn9).2.2.2.2.1) ((tn9).2.2.2.2.2.1) ((tn9).2.2.2.2.2.2.1) ((tn9).2.2.2.2.2.2.2.1) ((tn9).2.2.2.2.2.2.2.2.1) ((tn9).2.2.2.2.2.2.2.2.2.1) ((tn9).2.2.2.2.2.2.2.2.2.2.1) ((tn9).2.2.2.2.2.2.2.2.2.2.2) m1)∧(
         (fun (zi : UT × LM × Int) =>
          if zi.2.2=0 then
           (kset_P o0c za zd zf zc zb zi.1.1 zi.1.2.1 zi.1.2.2.1 zi.1.2.2.2.1 zi.1.2.2.2.2.1 zi.1.2.2.2.2.2.1 zi.1.2.2.2.2.2.2.1 zi.1.2.2.2.2.2.2.2.1 zi.1.2.2.2.2.2.2.2.2.1 zi.1.2.2.2.2.2.2.2.2.2.1 zi.1.2.2.2.2.2.2.2.2.2.2.1 zi.1.2.2.2.2.2.2.2.2.2.2.2)∧(
           True)
          else
           True) ((tvote_F ((tn9).1) ((tn9).2.1) ((tn9).2.2.1) ((tn9).2.2.2.1) ((tn9).2.2.2.2.1) ((tn9).2.2.2.2.2.1) ((tn9).2.2.2.2.2.2.1) ((tn9).2.2.2.2.2.2.2.1) ((tn9).2.2.2.2.2.2.2.2.1) ((tn9).2.2.2.2.2.2.2.2.2.1) ((tn9).2.2.2.2.2.2.2.2.2.2.1) ((tn9).2.2.2.2.2.2.2.2.2.2.2) m1)))
        else
         if m1 0=7 then
          (tack_P ((tn9).1) ((tn9).2.1) ((tn9).2.2.1) ((tn9).2.2.2.1) ((tn9).2.2.2.2.1) ((tn9).2.2.2.2.2.1) ((tn9).2.2.2.2.2.2.1) ((tn9).2.2.2.2.2.2.2.1) ((tn9).2.2.2.2.2.2.2.2.1) ((tn9).2.2.2.2.2.2.2.2.2.1) ((tn9).2.2.2.2.2.2.2.2.2.2.1) ((tn9).2.2.2.2.2.2.2.2.2.2.2) m1)∧(
          (fun (zj : UT × Int) =>
           if zj.2=0 then
            (kset_P o0c za zd zf zc zb zj.1.1 zj.1.2.1 zj.1.2.2.1 zj.1.2.2.2.1 zj.1.2.2.2.2.1 zj.1.2.2.2.2.2.1 zj.1.2.2.2.2.2.2.1 zj.1.2.2.2.2.2.2.2.1 zj.1.2.2.2.2.2.2.2.2.1 zj.1.2.2.2.2.2.2.2.2.2.1 zj.1.2.2.2.2.2.2.2.2.2.2.1 zj.1.2.2.2.2.2.2.2.2.2.2.2)∧(
            True)
           else
            True) ((tack_F ((tn9).1) ((tn9).2.1) ((tn9).2.2.1) ((tn9).2.2.2.1) ((tn9).2.2.2.2.1) ((tn9).2.2.2.2.2.1) ((tn9).2.2.2.2.2.2.1) ((tn9).2.2.2.2.2.2.2.1) ((tn9).2.2.2.2.2.2.2.2.1) ((tn9).2.2.2.2.2.2.2.2.2.1) ((tn9).2.2.2.2.2.2.2.2.2.2.1) ((tn9).2.2.2.2.2.2.2.2.2.2.2) m1)))
         else
          if m1 0=9 then
           (kabort_P o0c za zd zf zc zb (m1 3) 5 ([1,2]))∧(
           True)
          else
           if m1 0=10 then
            (kwounded_P o0c za zd zf zc zb m1)∧(
            True)
           else
            True
     else
      True) (mget ieq zc (m1 3) (0,0,0,0,false,0,(fun _=>0),0,[],[],[],[]))
 else
  True
theorem khandle_ok (o0c : NI) (za : NI) (zd : Int) (zf : Int) (zc : UM) (zb : LM) (m1 : NI) (hP : khandle_P o0c za zd zf zc zb m1) : khandle_S o0c za zd zf zc zb m1 (khandle_F o0c za zd zf zc zb m1) := by
 obtain ⟨r,hr⟩ : ∃ r,r=khandle_F o0c za zd zf zc zb m1 := ⟨_,rfl⟩
 rw [← hr]
 unfold khandle_F at hr
 unfold khandle_S
 unfold khandle_P at hP
 by_cases hp94 : (msgOk_F m1)=0
 ·rw [if_pos hp94] at hr hP ⊢
  by_cases hp95 : ((!(decide (m1 2=0))) || (decide (o0c 0 < m1 1)))=true
  ·rw [if_pos hp95] at hr hP ⊢
   exact hr
  ·rw [if_neg hp95] at hr hP ⊢
   by_cases hp96 : m1 0=11
   ·rw [if_pos hp96] at hr hP ⊢
    obtain ⟨hq0,hP⟩ := hP
    refine ⟨hq0,?_⟩
    exact hr
   ·rw [if_neg hp96] at hr hP ⊢
    obtain ⟨tn9,htn9⟩ : ∃ x_,x_=mget ieq zc (m1 3) (0,0,0,0,false,0,(fun _=>0),0,[],[],[],[]) := ⟨_,rfl⟩
    refine ⟨tn9,htn9,?_⟩
    try rw [← htn9] at hr
    try dsimp only at hr
    try rw [← htn9] at hP
    try dsimp only at hP
    by_cases hp97 : ((mhas ieq zc (m1 3)))=true
    ·rw [if_pos hp97] at hr hP ⊢
     by_cases hp98 : m1 0=2
     ·rw [if_pos hp98] at hr hP ⊢
      obtain ⟨hq0,hP⟩ := hP
      refine ⟨hq0,?_⟩
      obtain ⟨zg,hrn14⟩ : ∃ x_,x_=(tanswered_F ((tn9).1) ((tn9).2.1) ((tn9).2.2.1) ((tn9).2.2.2.1) ((tn9).2.2.2.2.1) ((tn9).2.2.2.2.2.1) ((tn9).2.2.2.2.2.2.1) ((tn9).2.2.2.2.2.2.2.1) ((tn9).2.2.2.2.2.2.2.2.1) ((tn9).2.2.2.2.2.2.2.2.2.1) ((tn9).2.2.2.2.2.2.2.2.2.2.1) ((tn9).2.2.2.2.2.2.2.2.2.2.2) m1) := ⟨_,rfl⟩
      refine ⟨zg,hrn14,?_⟩
      try rw [← hrn14] at hr
      try dsimp only at hr
      try rw [← hrn14] at hP
      try dsimp only at hP
      by_cases hp99 : zg.2=0
      ·rw [if_pos hp99] at hr hP ⊢
       obtain ⟨hq0,hP⟩ := hP
       refine ⟨hq0,?_⟩
       obtain ⟨hq0,hP⟩ := hP
       refine ⟨hq0,?_⟩
       exact hr
      ·rw [if_neg hp99] at hr hP ⊢
       exact hr
     ·rw [if_neg hp98] at hr hP ⊢
      by_cases hp100 : m1 0=3
      ·rw [if_pos hp100] at hr hP ⊢
       obtain ⟨hq0,hP⟩ := hP
       refine ⟨hq0,?_⟩
       obtain ⟨zh,hrn35⟩ : ∃ x_,x_=(tanswered_F ((tn9).1) ((tn9).2.1) ((tn9).2.2.1) ((tn9).2.2.2.1) ((tn9).2.2.2.2.1) ((tn9).2.2.2.2.2.1) ((tn9).2.2.2.2.2.2.1) ((tn9).2.2.2.2.2.2.2.1) ((tn9).2.2.2.2.2.2.2.2.1) ((tn9).2.2.2.2.2.2.2.2.2.1) ((tn9).2.2.2.2.2.2.2.2.2.2.1) ((tn9).2.2.2.2.2.2.2.2.2.2.2) m1) := ⟨_,rfl⟩
       refine ⟨zh,hrn35,?_⟩
       try rw [← hrn35] at hr
       try dsimp only at hr
       try rw [← hrn35] at hP
       try dsimp only at hP
       by_cases hp101 : zh.2=0
       ·rw [if_pos hp101] at hr hP ⊢
        obtain ⟨hq0,hP⟩ := hP
        refine ⟨hq0,?_⟩
        obtain ⟨hq0,hP⟩ := hP
        refine ⟨hq0,?_⟩
        exact hr
       ·rw [if_neg hp101] at hr hP ⊢
        exact hr
      ·rw [if_neg hp100] at hr hP ⊢
       by_cases hp102 : m1 0=5
       ·rw [if_pos hp102] at hr hP ⊢
        obtain ⟨hq0,hP⟩ := hP
        refine ⟨hq0,?_⟩
        obtain ⟨zi,hrn56⟩ : ∃ x_,x_=(tvote_F ((tn9).1) ((tn9).2.1) ((tn9).2.2.1) ((tn9).2.2.2.1) ((tn9).2.2.2.2.1) ((tn9).2.2.2.2.2.1) ((tn9).2.2.2.2.2.2.1) ((tn9).2.2.2.2.2.2.2.1) ((tn9).2.2.2.2.2.2.2.2.1) ((tn9).2.2.2.2.2.2.2.2.2.1) ((tn9).2.2.2.2.2.2.2.2.2.2.1) ((tn9).2.2.2.2.2.2.2.2.2.2.2) m1) := ⟨_,rfl⟩
        refine ⟨zi,hrn56,?_⟩
        try rw [← hrn56] at hr
        try dsimp only at hr
        try rw [← hrn56] at hP
        try dsimp only at hP
        by_cases hp103 : zi.2.2=0
        ·rw [if_pos hp103] at hr hP ⊢
         obtain ⟨hq0,hP⟩ := hP
         refine ⟨hq0,?_⟩
         exact hr
        ·rw [if_neg hp103] at hr hP ⊢
         exact hr
       ·rw [if_neg hp102] at hr hP ⊢
        by_cases hp104 : m1 0=7
        ·rw [if_pos hp104] at hr hP ⊢
         obtain ⟨hq0,hP⟩ := hP
         refine ⟨hq0,?_⟩
         obtain ⟨zj,hrn76⟩ : ∃ x_,x_=(tack_F ((tn9).1) ((tn9).2.1) ((tn9).2.2.1) ((tn9).2.2.2.1) ((tn9).2.2.2.2.1) ((tn9).2.2.2.2.2.1) ((tn9).2.2.2.2.2.2.1) ((tn9).2.2.2.2.2.2.2.1) ((tn9).2.2.2.2.2.2.2.2.1) ((tn9).2.2.2.2.2.2.2.2.2.1) ((tn9).2.2.2.2.2.2.2.2.2.2.1) ((tn9).2.2.2.2.2.2.2.2.2.2.2) m1) := ⟨_,rfl⟩
         refine ⟨zj,hrn76,?_⟩
         try rw [← hrn76] at hr
         try dsimp only at hr
         try rw [← hrn76] at hP
         try dsimp only at hP
         by_cases hp105 : zj.2=0
         ·rw [if_pos hp105] at hr hP ⊢
          obtain ⟨hq0,hP⟩ := hP
          refine ⟨hq0,?_⟩
          exact hr
         ·rw [if_neg hp105] at hr hP ⊢
          exact hr
        ·rw [if_neg hp104] at hr hP ⊢
         by_cases hp106 : m1 0=9
         ·rw [if_pos hp106] at hr hP ⊢
          obtain ⟨hq0,hP⟩ := hP
          refine ⟨hq0,?_⟩
          exact hr
         ·rw [if_neg hp106] at hr hP ⊢
          by_cases hp107 : m1 0=10
          ·rw [if_pos hp107] at hr hP ⊢
           obtain ⟨hq0,hP⟩ := hP
           refine ⟨hq0,?_⟩
           exact hr
          ·rw [if_neg hp107] at hr hP ⊢
           exact hr
    ·rw [if_neg hp97] at hr hP ⊢
     exact hr
 ·rw [if_neg hp94] at hr hP ⊢
  exact hr
def ktick_l1 (o0c : NI) (za : NI) (zd : Int) (zf : Int) (out3 : LM) (x36 : Int) (zl : NI) (zk : UM) (zm : LM) (o : (LM × Int × NI × UM × LM) ⊕ (LM × NI × UM × LM)) : Prop :=
 if x36 < ((clost_F za (zd + 1) (o0c 2)).length : Int) then
  (0≤x36∧x36 < (clost_F za (zd + 1) (o0c 2)).length)∧(
  (kabort_P o0c zl (zd + 1) zf zk zm ((clost_F za (zd + 1) (o0c 2))[x36.toNat]!) 5 ([1]))∧(
  ((out3.length + ((kabort_F o0c zl (zd + 1) zf zk zm ((clost_F za (zd + 1) (o0c 2))[x36.toNat]!) 5 ([1])).1).length) * 224≤140737488355328)∧(
  (inI64 (x36 + 1))∧(
  o=(.inl ((out3++(kabort_F o0c zl (zd + 1) zf zk zm ((clost_F za (zd + 1) (o0c 2))[x36.toNat]!) 5 ([1])).1),x36 + 1,(kabort_F o0c zl (zd + 1) zf zk zm ((clost_F za (zd + 1) (o0c 2))[x36.toNat]!) 5 ([1])).2.2.2.2,(kabort_F o0c zl (zd + 1) zf zk zm ((clost_F za (zd + 1) (o0c 2))[x36.toNat]!) 5 ([1])).2.2.1,(kabort_F o0c zl (zd + 1) zf zk zm ((clost_F za (zd + 1) (o0c 2))[x36.toNat]!) 5 ([1])).2.2.2.1))))))
 else
  o=(.inr (out3,zl,zk,zm))
def ktick_l2 (o0c : NI) (zd : Int) (zf : Int) (zl : NI) (zk : UM) (zm : LM) (out3a : LM) (x66 : Int) (o : (LM × Int) ⊕ (LM)) : Prop :=
 if x66 < ((call_F o0c zl (zd + 1) zf zk zm).length : Int) then
  (0≤x66∧x66 < (call_F o0c zl (zd + 1) zf zk zm).length)∧(
  ∃ zn : UT,zn=mget ieq zk ((call_F o0c zl (zd + 1) zf zk zm)[x66.toNat]!) (0,0,0,0,false,0,(fun _=>0),0,[],[],[],[])∧(
  (calive_P zl ((cof_F zl ((call_F o0c zl (zd + 1) zf zk zm)[x66.toNat]!)).1))∧(
  (tagain_P ((zn).1) ((zn).2.1) ((zn).2.2.1) ((zn).2.2.2.1) ((zn).2.2.2.2.1) ((zn).2.2.2.2.2.1) ((zn).2.2.2.2.2.2.1) ((zn).2.2.2.2.2.2.2.1) ((zn).2.2.2.2.2.2.2.2.1) ((zn).2.2.2.2.2.2.2.2.2.1) ((zn).2.2.2.2.2.2.2.2.2.2.1) ((zn).2.2.2.2.2.2.2.2.2.2.2) (calive_F zl ((cof_F zl ((call_F o0c zl (zd + 1) zf zk zm)[x66.toNat]!)).1)))∧(
  ((out3a.length + (tagain_F ((zn).1) ((zn).2.1) ((zn).2.2.1) ((zn).2.2.2.1) ((zn).2.2.2.2.1) ((zn).2.2.2.2.2.1) ((zn).2.2.2.2.2.2.1) ((zn).2.2.2.2.2.2.2.1) ((zn).2.2.2.2.2.2.2.2.1) ((zn).2.2.2.2.2.2.2.2.2.1) ((zn).2.2.2.2.2.2.2.2.2.2.1) ((zn).2.2.2.2.2.2.2.2.2.2.2) (calive_F zl ((cof_F zl ((call_F o0c zl (zd + 1) zf zk zm)[x66.toNat]!)).1))).length) * 224≤140737488355328)∧(
  (inI64 (x66 + 1))∧(
  o=(.inl ((out3a++(tagain_F ((zn).1) ((zn).2.1) ((zn).2.2.1) ((zn).2.2.2.1) ((zn).2.2.2.2.1) ((zn).2.2.2.2.2.1) ((zn).2.2.2.2.2.2.1) ((zn).2.2.2.2.2.2.2.1) ((zn).2.2.2.2.2.2.2.2.1) ((zn).2.2.2.2.2.2.2.2.2.1) ((zn).2.2.2.2.2.2.2.2.2.2.1) ((zn).2.2.2.2.2.2.2.2.2.2.2) (calive_F zl ((cof_F zl ((call_F o0c zl (zd + 1) zf zk zm)[x66.toNat]!)).1)))),x66 + 1))))))))
 else
  o=(.inr out3a)
def ktick_k2a (zd : Int) (zl : NI) (zk : UM) (zm : LM) (out3a : LM) (r : LM × Int × UM × LM × NI) : Prop :=
 r=((out3a,zd + 1,zk,zm,zl))
def ktick_k1a (o0c : NI) (zd : Int) (zf : Int) (out3 : LM) (zl : NI) (zk : UM) (zm : LM) (r : LM × Int × UM × LM × NI) : Prop :=
 ((o0c 3) ≠ 0)∧(
 if (zd + 1).tmod (o0c 3)=0 then
  (call_P o0c zl (zd + 1) zf zk zm)∧(
  ∃ x : LM,Wh (fun (s : LM × Int) (o : (LM × Int) ⊕ (LM))=>ktick_l2 o0c zd zf zl zk zm s.1 s.2 o) ((out3,0) : LM × Int) x∧ktick_k2a zd zl zk zm x r)
 else
  r=((out3,zd + 1,zk,zm,zl)))
def ktick_S (o0c : NI) (za : NI) (zd : Int) (zf : Int) (zc : UM) (zb : LM) (r : LM × Int × UM × LM × NI) : Prop :=
 (inI64 (zd + 1))∧(
 (clost_P za (zd + 1) (o0c 2))∧(
 ∃ x : LM × NI × UM × LM,Wh (fun (s : LM × Int × NI × UM × LM) (o : (LM × Int × NI × UM × LM) ⊕ (LM × NI × UM × LM))=>ktick_l1 o0c za zd zf s.1 s.2.1 s.2.2.1 s.2.2.2.1 s.2.2.2.2 o) (([],0,za,zc,zb) : LM × Int × NI × UM × LM) x∧ktick_k1a o0c zd zf x.1 x.2.1 x.2.2.1 x.2.2.2 r))
end Go.E
namespace Go.E
open Go
def msgs_l1 (a0 : LM) (b1 : LM) (i5 : Int) (o : (Int) ⊕ ((Unit) ⊕ (Unit))) : Prop :=
 if i5 < (a0.length : Int) then
  (0≤i5∧i5 < a0.length)∧(
  (0≤i5∧i5 < b1.length)∧(
  if ((eqN 28 (a0[i5.toNat]!) (b1[i5.toNat]!)))=true then
   (inI64 (i5 + 1))∧(
   o=(.inl (i5 + 1)))
  else
   o=(.inr (.inr ()))))
 else
  o=(.inr (.inl ()))
def msgs_k1a (r : Bool) : Prop :=
 r=(true)
def msgs_k1b (r : Bool) : Prop :=
 r=(false)
def msgs_S (a0 : LM) (b1 : LM) (r : Bool) : Prop :=
 if (a0.length : Int)=(b1.length : Int) then
  ∃ x : (Unit) ⊕ (Unit),Wh (fun (s : Int) (o : (Int) ⊕ ((Unit) ⊕ (Unit)))=>msgs_l1 a0 b1 s o) (0 : Int) x∧(match x with | .inl _=>msgs_k1a r | .inr _=>msgs_k1b r)
 else
  r=(false)
end Go.E
namespace Go.E
open Go
def msgs_F (a b : LM) : Bool := decide (a.length=b.length) && (List.range a.length).all fun k=>eqN 28 (a[k]!) (b[k]!)
def msgs_P (a _ : LM) : Prop := a.length < 9000000000000000000
theorem msgs_ok (a b : LM) (h : msgs_P a b) : msgs_S a b (msgs_F a b) := by
 unfold msgs_P at h
 unfold msgs_S msgs_F
 by_cases hl : a.length=b.length
 ·rw [if_pos (by omega),decide_eq_true hl,Bool.true_and]
  have := Wh.all (f := fun (s : Int) (o : Int ⊕ (Unit ⊕ Unit))=>msgs_l1 a b s o) a.length (fun k=>eqN 28 (a[k]!) (b[k]!)) (.inl ()) (.inr ()) (fun k hk hp=>by
    unfold msgs_l1
    rw [if_pos (by omega)]
    refine ⟨⟨by omega,by omega⟩,⟨by omega,by omega⟩,?_⟩
    rw [Int.toNat_natCast,if_pos hp]
    exact ⟨step1 (by omega),rfl⟩) (fun k hk hp=>by
    unfold msgs_l1
    rw [if_pos (by omega)]
    refine ⟨⟨by omega,by omega⟩,⟨by omega,by omega⟩,?_⟩
    rw [Int.toNat_natCast,if_neg (by rw [hp]; decide)]) (by
    unfold msgs_l1
    rw [if_neg (by omega)])
  refine ⟨_,this,?_⟩
  by_cases hall : (List.range a.length).all (fun k=>eqN 28 (a[k]!) (b[k]!))=true
  ·rw [if_pos hall,hall]; rfl
  ·rw [if_neg hall]
   have : (List.range a.length).all (fun k=>eqN 28 (a[k]!) (b[k]!))=false := by simpa using hall
   rw [this]; rfl
 ·rw [if_neg (by omega),decide_eq_false hl,Bool.false_and]
end Go.E
namespace Go.E
open Go
def alive18_S (r : Bool) : Prop :=
 if ((decide (1≤2)) && (decide (2≤64)))=true then
  if ((decide (1≤5)) && (decide (5≤1000)))=true then
   if ((decide (1≤3)) && (decide (3≤1000)))=true then
    if ((decide (1≤40)) && (decide (40≤4096)))=true then
     if ((decide (1≤6)) && (decide (6≤64)))=true then
      if ((decide (1≤1000)) && (decide (1000≤65536)))=true then
       (kbegin_P (updI (updI (updI (updI (updI (updI (updI (fun _=>0) 0 2) 1 (bI false)) 2 5) 3 3) 4 40) 5 6) 6 1000) (updI (fun _=>0) 0 2) 0 0 ([]) ([]) 1)∧(
       (klock_P (updI (updI (updI (updI (updI (updI (updI (fun _=>0) 0 2) 1 (bI false)) 2 5) 3 3) 4 40) 5 6) 6 1000) ((kbegin_F (updI (updI (updI (updI (updI (updI (updI (fun _=>0) 0 2) 1 (bI false)) 2 5) 3 3) 4 40) 5 6) 6 1000) (updI (fun _=>0) 0 2) 0 0 ([]) ([]) 1).2.2.2.2.2) 0 ((kbegin_F (updI (updI (updI (updI (updI (updI (updI (fun _=>0) 0 2) 1 (bI false)) 2 5) 3 3) 4 40) 5 6) 6 1000) (updI (fun _=>0) 0 2) 0 0 ([]) ([]) 1).2.2.1) ((kbegin_F (updI (updI (updI (updI (updI (updI (updI (fun _=>0) 0 2) 1 (bI false)) 2 5) 3 3) 4 40) 5 6) 6 1000) (updI (fun _=>0) 0 2) 0 0 ([]) ([]) 1).2.2.2.1) ((kbegin_F (updI (updI (updI (updI (updI (updI (updI (fun _=>0) 0 2) 1 (bI false)) 2 5) 3 3) 4 40) 5 6) 6 1000) (updI (fun _=>0) 0 2) 0 0 ([]) ([]) 1).2.2.2.2.1) 1 (updI (fun _=>0) 0 3) 4)∧(
       (kcommit_P (updI (updI (updI (updI (updI (updI (updI (fun _=>0) 0 2) 1 (bI false)) 2 5) 3 3) 4 40) 5 6) 6 1000) ((klock_F (updI (updI (updI (updI (updI (updI (updI (fun _=>0) 0 2) 1 (bI false)) 2 5) 3 3) 4 40) 5 6) 6 1000) ((kbegin_F (updI (updI (updI (updI (updI (updI (updI (fun _=>0) 0 2) 1 (bI false)) 2 5) 3 3) 4 40) 5 6) 6 1000) (updI (fun _=>0) 0 2) 0 0 ([]) ([]) 1).2.2.2.2.2) 0 ((kbegin_F (updI (updI (updI (updI (updI (updI (updI (fun _=>0) 0 2) 1 (bI false)) 2 5) 3 3) 4 40) 5 6) 6 1000) (updI (fun _=>0) 0 2) 0 0 ([]) ([]) 1).2.2.1) ((kbegin_F (updI (updI (updI (updI (updI (updI (updI (fun _=>0) 0 2) 1 (bI false)) 2 5) 3 3) 4 40) 5 6) 6 1000) (updI (fun _=>0) 0 2) 0 0 ([]) ([]) 1).2.2.2.1) ((kbegin_F (updI (updI (updI (updI (updI (updI (updI (fun _=>0) 0 2) 1 (bI false)) 2 5) 3 3) 4 40) 5 6) 6 1000) (updI (fun _=>0) 0 2) 0 0 ([]) ([]) 1).2.2.2.2.1) 1 (updI (fun _=>0) 0 3) 4).2.2.2.2) 0 ((kbegin_F (updI (updI (updI (updI (updI (updI (updI (fun _=>0) 0 2) 1 (bI false)) 2 5) 3 3) 4 40) 5 6) 6 1000) (updI (fun _=>0) 0 2) 0 0 ([]) ([]) 1).2.2.1) ((klock_F (updI (updI (updI (updI (updI (updI (updI (fun _=>0) 0 2) 1 (bI false)) 2 5) 3 3) 4 40) 5 6) 6 1000) ((kbegin_F (updI (updI (updI (updI (updI (updI (updI (fun _=>0) 0 2) 1 (bI false)) 2 5) 3 3) 4 40) 5 6) 6 1000) (updI (fun _=>0) 0 2) 0 0 ([]) ([]) 1).2.2.2.2.2) 0 ((kbegin_F (updI (updI (updI (updI (updI (updI (updI (fun _=>0) 0 2) 1 (bI false)) 2 5) 3 3) 4 40) 5 6) 6 1000) (updI (fun _=>0) 0 2) 0 0 ([]) ([]) 1).2.2.1) ((kbegin_F (updI (updI (updI (updI (updI (updI (updI (fun _=>0) 0 2) 1 (bI false)) 2 5) 3 3) 4 40) 5 6) 6 1000) (updI (fun _=>0) 0 2) 0 0 ([]) ([]) 1).2.2.2.1) ((kbegin_F (updI (updI (updI (updI (updI (updI (updI (fun _=>0) 0 2) 1 (bI false)) 2 5) 3 3) 4 40) 5 6) 6 1000) (updI (fun _=>0) 0 2) 0 0 ([]) ([]) 1).2.2.2.2.1) 1 (updI (fun _=>0) 0 3) 4).2.2.1) ((klock_F (updI (updI (updI (updI (updI (updI (updI (fun _=>0) 0 2) 1 (bI false)) 2 5) 3 3) 4 40) 5 6) 6 1000) ((kbegin_F (updI (updI (updI (updI (updI (updI (updI (fun _=>0) 0 2) 1 (bI false)) 2 5) 3 3) 4 40) 5 6) 6 1000) (updI (fun _=>0) 0 2) 0 0 ([]) ([]) 1).2.2.2.2.2) 0 ((kbegin_F (updI (updI (updI (updI (updI (updI (updI (fun _=>0) 0 2) 1 (bI false)) 2 5) 3 3) 4 40) 5 6) 6 1000) (updI (fun _=>0) 0 2) 0 0 ([]) ([]) 1).2.2.1) ((kbegin_F (updI (updI (updI (updI (updI (updI (updI (fun _=>0) 0 2) 1 (bI false)) 2 5) 3 3) 4 40) 5 6) 6 1000) (updI (fun _=>0) 0 2) 0 0 ([]) ([]) 1).2.2.2.1) ((kbegin_F (updI (updI (updI (updI (updI (updI (updI (fun _=>0) 0 2) 1 (bI false)) 2 5) 3 3) 4 40) 5 6) 6 1000) (updI (fun _=>0) 0 2) 0 0 ([]) ([]) 1).2.2.2.2.1) 1 (updI (fun _=>0) 0 3) 4).2.2.2.1) 1)∧(
       if (kbegin_F (updI (updI (updI (updI (updI (updI (updI (fun _=>0) 0 2) 1 (bI false)) 2 5) 3 3) 4 40) 5 6) 6 1000) (updI (fun _=>0) 0 2) 0 0 ([]) ([]) 1).1=1 then
        if (kbegin_F (updI (updI (updI (updI (updI (updI (updI (fun _=>0) 0 2) 1 (bI false)) 2 5) 3 3) 4 40) 5 6) 6 1000) (updI (fun _=>0) 0 2) 0 0 ([]) ([]) 1).2.1=0 then
         if (klock_F (updI (updI (updI (updI (updI (updI (updI (fun _=>0) 0 2) 1 (bI false)) 2 5) 3 3) 4 40) 5 6) 6 1000) ((kbegin_F (updI (updI (updI (updI (updI (updI (updI (fun _=>0) 0 2) 1 (bI false)) 2 5) 3 3) 4 40) 5 6) 6 1000) (updI (fun _=>0) 0 2) 0 0 ([]) ([]) 1).2.2.2.2.2) 0 ((kbegin_F (updI (updI (updI (updI (updI (updI (updI (fun _=>0) 0 2) 1 (bI false)) 2 5) 3 3) 4 40) 5 6) 6 1000) (updI (fun _=>0) 0 2) 0 0 ([]) ([]) 1).2.2.1) ((kbegin_F (updI (updI (updI (updI (updI (updI (updI (fun _=>0) 0 2) 1 (bI false)) 2 5) 3 3) 4 40) 5 6) 6 1000) (updI (fun _=>0) 0 2) 0 0 ([]) ([]) 1).2.2.2.1) ((kbegin_F (updI (updI (updI (updI (updI (updI (updI (fun _=>0) 0 2) 1 (bI false)) 2 5) 3 3) 4 40) 5 6) 6 1000) (updI (fun _=>0) 0 2) 0 0 ([]) ([]) 1).2.2.2.2.1) 1 (updI (fun _=>0) 0 3) 4).2.1=0 then
          (msgs_P ((klock_F (updI (updI (updI (updI (updI (updI (updI (fun _=>0) 0 2) 1 (bI false)) 2 5) 3 3) 4 40) 5 6) 6 1000) ((kbegin_F (updI (updI (updI (updI (updI (updI (updI (fun _=>0) 0 2) 1 (bI false)) 2 5) 3 3) 4 40) 5 6) 6 1000) (updI (fun _=>0) 0 2) 0 0 ([]) ([]) 1).2.2.2.2.2) 0 ((kbegin_F (updI (updI (updI (updI (updI (updI (updI (fun _=>0) 0 2) 1 (bI false)) 2 5) 3 3) 4 40) 5 6) 6 1000) (updI (fun _=>0) 0 2) 0 0 ([]) ([]) 1).2.2.1) ((kbegin_F (updI (updI (updI (updI (updI (updI (updI (fun _=>0) 0 2) 1 (bI false)) 2 5) 3 3) 4 40) 5 6) 6 1000) (updI (fun _=>0) 0 2) 0 0 ([]) ([]) 1).2.2.2.1) ((kbegin_F (updI (updI (updI (updI (updI (updI (updI (fun _=>0) 0 2) 1 (bI false)) 2 5) 3 3) 4 40) 5 6) 6 1000) (updI (fun _=>0) 0 2) 0 0 ([]) ([]) 1).2.2.2.2.1) 1 (updI (fun _=>0) 0 3) 4).1) ([(updI (updRI (updI (updI (updI (updI (fun _=>0) 0 1) 2 1) 3 1) 4 1) 5 2 (updI (fun _=>0) 0 3)) 7 4)]))∧(
          if ((msgs_F ((klock_F (updI (updI (updI (updI (updI (updI (updI (fun _=>0) 0 2) 1 (bI false)) 2 5) 3 3) 4 40) 5 6) 6 1000) ((kbegin_F (updI (updI (updI (updI (updI (updI (updI (fun _=>0) 0 2) 1 (bI false)) 2 5) 3 3) 4 40) 5 6) 6 1000) (updI (fun _=>0) 0 2) 0 0 ([]) ([]) 1).2.2.2.2.2) 0 ((kbegin_F (updI (updI (updI (updI (updI (updI (updI (fun _=>0) 0 2) 1 (bI false)) 2 5) 3 3) 4 40) 5 6) 6 1000) (updI (fun _=>0) 0 2) 0 0 ([]) ([]) 1).2.2.1) ((kbegin_F (updI (updI (updI (updI (updI (updI (updI (fun _=>0) 0 2) 1 (bI false)) 2 5) 3 3) 4 40) 5 6) 6 1000) (updI (fun _=>0) 0 2) 0 0 ([]) ([]) 1).2.2.2.1) ((kbegin_F (updI (updI (updI (updI (updI (updI (updI (fun _=>0) 0 2) 1 (bI false)) 2 5) 3 3) 4 40) 5 6) 6 1000) (updI (fun _=>0) 0 2) 0 0 ([]) ([]) 1).2.2.2.2.1) 1 (updI (fun _=>0) 0 3) 4).1) ([(updI (updRI (updI (updI (updI (updI (fun _=>0) 0 1) 2 1) 3 1) 4 1) 5 2 (updI (fun _=>0) 0 3)) 7 4)])))=true then
           r=(decide ((code_F ((kcommit_F (updI (updI (updI (updI (updI (updI (updI (fun _=>0) 0 2) 1 (bI false)) 2 5) 3 3) 4 40) 5 6) 6 1000) ((klock_F (updI (updI (updI (updI (updI (updI (updI (fun _=>0) 0 2) 1 (bI false)) 2 5) 3 3) 4 40) 5 6) 6 1000) ((kbegin_F (updI (updI (updI (updI (updI (updI (updI (fun _=>0) 0 2) 1 (bI false)) 2 5) 3 3) 4 40) 5 6) 6 1000) (updI (fun _=>0) 0 2) 0 0 ([]) ([]) 1).2.2.2.2.2) 0 ((kbegin_F (updI (updI (updI (updI (updI (updI (updI (fun _=>0) 0 2) 1 (bI false)) 2 5) 3 3) 4 40) 5 6) 6 1000) (updI (fun _=>0) 0 2) 0 0 ([]) ([]) 1).2.2.1) ((kbegin_F (updI (updI (updI (updI (updI (updI (updI (fun _=>0) 0 2) 1 (bI false)) 2 5) 3 3) 4 40) 5 6) 6 1000) (updI (fun _=>0) 0 2) 0 0 ([]) ([]) 1).2.2.2.1) ((kbegin_F (updI (updI (updI (updI (updI (updI (updI (fun _=>0) 0 2) 1 (bI false)) 2 5) 3 3) 4 40) 5 6) 6 1000) (updI (fun _=>0) 0 2) 0 0 ([]) ([]) 1).2.2.2.2.1) 1 (updI (fun _=>0) 0 3) 4).2.2.2.2) 0 ((kbegin_F (updI (updI (updI (updI (updI (updI (updI (fun _=>0) 0 2) 1 (bI false)) 2 5) 3 3) 4 40) 5 6) 6 1000) (updI (fun _=>0) 0 2) 0 0 ([]) ([]) 1).2.2.1) ((klock_F (updI (updI (updI (updI (updI (updI (updI (fun _=>0) 0 2) 1 (bI false)) 2 5) 3 3) 4 40) 5 6) 6 1000) ((kbegin_F (updI (updI (updI (updI (updI (updI (updI (fun _=>0) 0 2) 1 (bI false)) 2 5) 3 3) 4 40) 5 6) 6 1000) (updI (fun _=>0) 0 2) 0 0 ([]) ([]) 1).2.2.2.2.2) 0 ((kbegin_F (updI (updI (updI (updI (updI (updI (updI (fun _=>0) 0 2) 1 (bI false)) 2 5) 3 3) 4 40) 5 6) 6 1000) (updI (fun _=>0) 0 2) 0 0 ([]) ([]) 1).2.2.1) ((kbegin_F (updI (updI (updI (updI (updI (updI (updI (fun _=>0) 0 2) 1 (bI false)) 2 5) 3 3) 4 40) 5 6) 6 1000) (updI (fun _=>0) 0 2) 0 0 ([]) ([]) 1).2.2.2.1) ((kbegin_F (updI (updI (updI (updI (updI (updI (updI (fun _=>0) 0 2) 1 (bI false)) 2 5) 3 3) 4 40) 5 6) 6 1000) (updI (fun _=>0) 0 2) 0 0 ([]) ([]) 1).2.2.2.2.1) 1 (updI (fun _=>0) 0 3) 4).2.2.1) ((klock_F (updI (updI (updI (updI (updI (updI (updI (fun _=>0) 0 2) 1 (bI false)) 2 5) 3 3) 4 40) 5 6) 6 1000) ((kbegin_F (updI (updI (updI (updI (updI (updI (updI (fun _=>0) 0 2) 1 (bI false)) 2 5) 3 3) 4 40) 5 6) 6 1000) (updI (fun _=>0) 0 2) 0 0 ([]) ([]) 1).2.2.2.2.2) 0 ((kbegin_F (updI (updI (updI (updI (updI (updI (updI (fun _=>0) 0 2) 1 (bI false)) 2 5) 3 3) 4 40) 5 6) 6 1000) (updI (fun _=>0) 0 2) 0 0 ([]) ([]) 1).2.2.1) ((kbegin_F (updI (updI (updI (updI (updI (updI (updI (fun _=>0) 0 2) 1 (bI false)) 2 5) 3 3) 4 40) 5 6) 6 1000) (updI (fun _=>0) 0 2) 0 0 ([]) ([]) 1).2.2.2.1) ((kbegin_F (updI (updI (updI (updI (updI (updI (updI (fun _=>0) 0 2) 1 (bI false)) 2 5) 3 3) 4 40) 5 6) 6 1000) (updI (fun _=>0) 0 2) 0 0 ([]) ([]) 1).2.2.2.2.1) 1 (updI (fun _=>0) 0 3) 4).2.2.2.1) 1).2.1))=8))
          else
           r=(false))
         else
          r=(false)
        else
         r=(false)
       else
        r=(false))))
      else
       r=(false)
     else
      r=(false)
    else
     r=(false)
   else
    r=(false)
  else
   r=(false)
 else
  r=(false)
end Go.E
namespace Go.E
open Go
structure Inv16 (n : Int) (c : Nat → Int) : Prop where
 n1 : 1≤n∧n≤8
 c0 : c 0=n
 tx : ∀ j,j < 9 → 0≤c (1 + j * 3)∧c (1 + j * 3)≤1048576
 si : ∀ j,j < 9 → 0≤c (1 + (j * 3 + 1))∧c (1 + (j * 3 + 1))≤1099511627776
 out : ∀ j : Nat,j < 9 → (j=0∨n < j) → c (1 + j * 3)=0∧nz (c (1 + (j * 3 + 2)))=false
 one : ∀ i j : Nat,i < 9 → j < 9 → c (1 + i * 3)=c (1 + j * 3) → c (1 + i * 3) ≠ 0 → i=j
theorem Inv16.start {n : Int} (h : 1≤n∧n≤8) : Inv16 n (updI (fun _=>0) 0 n) := by
 have e : ∀ k,(updI (fun _=>0) 0 n) (1 + k)=0 := fun k=>if_neg (by omega)
 exact ⟨h,rfl,fun j _=>by rw [e]; omega,fun j _=>by rw [e]; omega,fun j _ _=>by rw [e,e]; exact ⟨rfl,rfl⟩,fun i j _ _ _ h=>absurd (e _) h⟩
theorem up_tx {c : Nat → Int} {k j : Nat} {x : Int} : updI c (1 + k * 3) x (1 + j * 3)=if j=k then x else c (1 + j * 3) := by
 by_cases h : j=k
 ·subst h; rw [if_pos rfl]; exact if_pos rfl
 ·rw [if_neg h]; exact if_neg (by omega)
theorem up_1 {c : Nat → Int} {k j : Nat} {x : Int} : updI c (1 + k * 3) x (1 + (j * 3 + 1))=c (1 + (j * 3 + 1)) := if_neg (by omega)
theorem up_2 {c : Nat → Int} {k j : Nat} {x : Int} : updI c (1 + k * 3) x (1 + (j * 3 + 2))=c (1 + (j * 3 + 2)) := if_neg (by omega)
theorem up_0 {c : Nat → Int} {k : Nat} {x : Int} : updI c (1 + k) x 0=c 0 := if_neg (by omega)
theorem Inv16.put {n : Int} {c : Nat → Int} (h : Inv16 n c) {k : Nat} {x : Int} (hk : 1≤k∧(k : Int)≤n) (hx : 0≤x∧x≤1048576) (hno : x ≠ 0 → ∀ j : Nat,1≤j → j < 9 → c (1 + j * 3) ≠ x) : Inv16 n (updI c (1 + k * 3) x) := by
 have hn1 := h.n1
 refine ⟨h.n1,by rw [up_0,h.c0],fun j hj=>?_,fun j hj=>by rw [up_1]; exact h.si j hj,fun j hj ho=>?_,fun i j hi hj he hne=>?_⟩
 ·rw [up_tx]; split
  ·exact hx
  ·exact h.tx j hj
 ·rw [up_tx,up_2,if_neg (by omega)]; exact h.out j hj ho
 ·rw [up_tx,up_tx] at he
  rw [up_tx] at hne
  have h0 := (h.out 0 (by omega) (.inl rfl)).1
  by_cases hik : i=k
  ·by_cases hjk : j=k
   ·omega
   ·rw [if_pos hik,if_neg hjk] at he
    rw [if_pos hik] at hne
    by_cases hj0 : j=0
    ·subst hj0; rw [h0] at he; exact absurd he hne
    ·exact absurd he.symm (hno hne j (by omega) hj)
  ·rw [if_neg hik] at he hne
   by_cases hjk : j=k
   ·rw [if_pos hjk] at he
    rw [he] at hne
    by_cases hi0 : i=0
    ·subst hi0; rw [h0] at he; exact absurd he.symm hne
    ·exact absurd he (hno hne i (by omega) hi)
   ·rw [if_neg hjk] at he
    exact h.one i j hi hj he hne
def deadC (c : Nat → Int) (k : Nat) (now : Int) : Nat → Int := updI (updI c ((1 + k * 3) + 2) (bI true)) ((1 + k * 3) + 1) now
theorem dead_tx {c : Nat → Int} {k j : Nat} {now : Int} : deadC c k now (1 + j * 3)=c (1 + j * 3) := (if_neg (by omega)).trans (if_neg (by omega))
theorem dead_1 {c : Nat → Int} {k j : Nat} {now : Int} : deadC c k now (1 + (j * 3 + 1))=if j=k then now else c (1 + (j * 3 + 1)) := by
 by_cases h : j=k
 ·subst h; rw [if_pos rfl]; exact if_pos (by omega)
 ·rw [if_neg h]; exact (if_neg (by omega)).trans (if_neg (by omega))
theorem dead_2 {c : Nat → Int} {k j : Nat} {now : Int} : deadC c k now (1 + (j * 3 + 2))=if j=k then 1 else c (1 + (j * 3 + 2)) := by
 by_cases h : j=k
 ·subst h; rw [if_pos rfl]; exact (if_neg (by omega)).trans (if_pos (by omega))
 ·rw [if_neg h]; exact (if_neg (by omega)).trans (if_neg (by omega))
theorem dead_0 {c : Nat → Int} {k : Nat} {now : Int} : deadC c k now 0=c 0 := by
 show (if 0=(1 + k * 3) + 1 then now else if 0=(1 + k * 3) + 2 then bI true else c 0)=c 0
 rw [if_neg (by omega),if_neg (by omega)]
theorem Inv16.dead {n : Int} {c : Nat → Int} (h : Inv16 n c) {k : Nat} {now : Int} (hk : 1≤k∧(k : Int)≤n) (hx : 0≤now∧now≤1099511627776) : Inv16 n (deadC c k now) := by
 refine ⟨h.n1,?_,fun j hj=>by rw [dead_tx]; exact h.tx j hj,fun j hj=>?_,fun j hj ho=>?_,fun i j hi hj he hne=>?_⟩
 ·rw [dead_0,h.c0]
 ·rw [dead_1]; split
  ·exact hx
  ·exact h.si j hj
 ·rw [dead_tx,dead_2,if_neg (by omega)]; exact h.out j hj ho
 ·rw [dead_tx,dead_tx] at he
  rw [dead_tx] at hne
  exact h.one i j hi hj he hne
theorem Inv16.of {n : Int} {c : Nat → Int} (h : Inv16 n c) (tx : Int) : (cofI c tx=0∧∀ j : Nat,j < 9 → 1≤tx → c (1 + j * 3) ≠ tx)∨∃ j : Nat,cofI c tx=j∧(1≤j∧(j : Int)≤n)∧1≤tx∧c (1 + j * 3)=tx := by
 rcases cofI_spec c tx with ⟨h1,h2⟩ | ⟨j,h1,h2,h3,h4,h5⟩
 ·refine .inl ⟨h1,fun j hj h4=>?_⟩
  by_cases h0 : j=0
  ·subst h0; rw [(h.out 0 (by omega) (.inl rfl)).1]; omega
  ·exact h2 j (by omega) (by omega) h4
 ·refine .inr ⟨j,h1,⟨h2,?_⟩,h4,h5⟩
  rcases Int.lt_or_le n j with h6 | h6
  ·rw [(h.out j (by omega) (.inr h6)).1] at h5; omega
  ·exact h6
theorem cof_eq (c : Nat → Int) (tx : Int) : (cof_F c tx).1=cofI c tx∧(cof_F c tx).2=if cofI c tx=0 then 10 else 0 := by
 unfold cof_F
 split
 ·rename_i h; exact ⟨h.symm,rfl⟩
 ·exact ⟨rfl,rfl⟩
theorem begin_eq {n : Int} {c : Nat → Int} (h : Inv16 n c) (id tx : Int) : cbegin_P c id tx∧cbegin_F c id tx=if id < 1∨n < id then (10,c) else if tx < 1∨1048576 < tx then (1,c) else if nz (c (1 + (id.toNat * 3 + 2)))=true then (11,c) else if c (1 + id.toNat * 3)=0 then (if cofI c tx=0 then (0,updI c (1 + id.toNat * 3) tx) else (15,c)) else (8,c) := by
 have hn := h.n1
 unfold cbegin_P cbegin_F
 rw [h.c0,(cof_eq c tx).2]
 simp only [Bool.or_eq_true,decide_eq_true_eq,Nat.add_assoc]
 by_cases h1 : id < 1∨n < id
 ·rw [if_pos h1,if_pos h1,if_pos h1]; exact ⟨trivial,rfl⟩
 ·rw [if_neg h1,if_neg h1,if_neg h1]
  refine ⟨⟨⟨by omega,by omega⟩,?_⟩,?_⟩
  ·split
   ·trivial
   ·split
    ·trivial
    ·split
     ·refine ⟨by unfold errIs_P; decide,?_⟩
      split <;> trivial
     ·trivial
  ·split
   ·rfl
   ·split
    ·rfl
    ·split
     ·unfold errIs_F
      by_cases hc : cofI c tx=0
      ·rw [if_pos hc,if_pos hc,if_pos (by decide)]
      ·rw [if_neg hc,if_neg hc,if_neg (by decide)]
     ·rfl
theorem end_eq {n : Int} {c : Nat → Int} (h : Inv16 n c) (tx : Int) : cend_P c tx∧cend_F c tx=if cofI c tx=0 then (10,c) else (0,updI c (1 + (cofI c tx).toNat * 3) 0) := by
 obtain ⟨e1,e2⟩ := cof_eq c tx
 have hn := h.n1
 unfold cend_P cend_F
 rw [e1,e2]
 rcases h.of tx with ⟨h1,_⟩ | ⟨j,h1,h2,_⟩
 ·rw [if_pos h1,if_pos h1,if_neg (by decide),if_neg (by decide)]; exact ⟨trivial,rfl⟩
 ·have : ¬ cofI c tx=0 := by omega
  rw [if_neg this,if_neg this,if_pos rfl,if_pos rfl]
  exact ⟨⟨⟨by omega,by omega⟩,trivial⟩,rfl⟩
theorem crash_eq {n : Int} {c : Nat → Int} (h : Inv16 n c) (id now : Int) : ccrash_P c id now∧ccrash_F c id now=if id < 1∨n < id then (10,c) else if now < 0∨1099511627776 < now then (1,c) else if nz (c (1 + (id.toNat * 3 + 2)))=true then (11,c) else (0,deadC c id.toNat now) := by
 have hn := h.n1
 unfold ccrash_P ccrash_F
 rw [h.c0]
 simp only [Bool.or_eq_true,decide_eq_true_eq,Nat.add_assoc]
 by_cases h1 : id < 1∨n < id
 ·rw [if_pos h1,if_pos h1,if_pos h1]; exact ⟨trivial,rfl⟩
 ·rw [if_neg h1,if_neg h1,if_neg h1]
  refine ⟨⟨⟨by omega,by omega⟩,?_⟩,?_⟩
  ·split
   ·trivial
   ·split <;> trivial
  ·split
   ·rfl
   ·split
    ·rfl
    ·unfold deadC
     simp only [Nat.add_assoc]
theorem Inv16.toN {n : Int} {c : Nat → Int} (h : Inv16 n c) {id : Int} (hi : ¬ (id < 1∨n < id)) : (1≤id.toNat∧(id.toNat : Int)≤n)∧(id.toNat : Int)=id := by omega
end Go.E
namespace Go.E
open Go
structure KS where
 cl : Nat → Int
 ti : Int
 la : Int
 m : TM
 tr : LM
def evS (t : TT) : LM :=
 if t.2.1=2 then [updI (updI (fun _=>0) 0 5) 2 t.1] else if t.2.1=4 then [updI (updI (updI (fun _=>0) 0 7) 2 t.1) 6 t.2.2.1] else if t.2.1=3 then [updI (updI (fun _=>0) 0 6) 2 t.1] else []
def endC (c : Nat → Int) (tx : Int) : Nat → Int := if cofI c tx=0 then c else updI c (1 + (cofI c tx).toNat * 3) 0
def setK (s : KS) (t : TT) : KS :=
 if (tAt s.m t.1).2.1=t.2.1 then { s with m := mset ieq s.m t.1 t }
 else { s with m := mset ieq s.m t.1 t,tr := s.tr++evS t,cl := if t.2.1=3∨t.2.1=4 then endC s.cl t.1 else s.cl }
structure KI (N : Int) (n : Nat) (s : KS) : Prop where
 hc : Inv16 N s.cl
 ht : 0≤s.ti∧s.ti≤n
 hl : 0≤s.la∧s.la≤n
 hu : Uniq s.m
 hk : ∀ k,mhas ieq s.m k=true ↔ 1≤k∧k≤s.la
 hT : ∀ k,1≤k → k≤s.la → TIT n (tAt s.m k)∧(tAt s.m k).1=k
 hb : ∀ j,j < 9 → s.cl (1 + j * 3) ≠ 0 → 1≤s.cl (1 + j * 3)∧s.cl (1 + j * 3)≤s.la∧(tAt s.m (s.cl (1 + j * 3))).2.1≤2
 hr : s.tr.length≤2 * n
theorem KI.start {N : Int} (h : 1≤N∧N≤8) : KI N 0 ⟨updI (fun _=>0) 0 N,0,0,[],[]⟩ where
 hc := Inv16.start h
 ht := by exact ⟨Int.le_refl _,Int.le_refl _⟩
 hl := by exact ⟨Int.le_refl _,Int.le_refl _⟩
 hu := List.nodup_nil
 hk := fun k=>⟨fun h=>(by cases h),fun h=>by have : 1≤k∧k≤0 := h; omega⟩
 hT := fun k h1 h2=>by have : k≤0 := h2; omega
 hb := fun j _ hne=>absurd (if_neg (by omega)) hne
 hr := Nat.le_refl _
theorem tAt_mset (m : TM) (k : Int) (t : TT) (k' : Int) : tAt (mset ieq m k t) k' = if k' = k then t else tAt m k' := by
 unfold tAt
 rw [mget_mset eqk_int]
 simp [ieq]
theorem TIT.mono {n m : Nat} {t : T17} (h : TIT n t) (hm : n≤m) : TIT m t := TI.mono h hm
theorem KI.mono {N : Int} {n m : Nat} {s : KS} (h : KI N n s) (hm : n≤m) : KI N m s where
 hc := h.hc
 ht := by have := h.ht; omega
 hl := by have := h.hl; omega
 hu := h.hu
 hk := h.hk
 hT := fun k h1 h2=>⟨(h.hT k h1 h2).1.mono hm,(h.hT k h1 h2).2⟩
 hb := h.hb
 hr := by have := h.hr; omega
theorem evS_len (t : TT) : (evS t).length≤1 := by
 unfold evS
 split
 ·exact Nat.le_refl _
 ·split
  ·exact Nat.le_refl _
  ·split
   ·exact Nat.le_refl _
   ·exact Nat.zero_le _
theorem endC_eq {N : Int} {c : Nat → Int} (h : Inv16 N c) (tx : Int) : cend_P c tx∧(cend_F c tx).2=endC c tx := by
 obtain ⟨h1,h2⟩ := end_eq h tx
 refine ⟨h1,?_⟩
 rw [h2]
 unfold endC
 split <;> rfl
theorem endC_inv {N : Int} {c : Nat → Int} (h : Inv16 N c) (tx : Int) : Inv16 N (endC c tx) := by
 unfold endC
 rcases h.of tx with ⟨h2,_⟩ | ⟨j,h2,h3,_⟩
 ·rw [if_pos h2]; exact h
 ·rw [if_neg (by omega),h2,Int.toNat_natCast]
  exact h.put h3 (by omega) fun h=>absurd rfl h
theorem endC_tx {N : Int} {c : Nat → Int} (h : Inv16 N c) {tx : Int} (ht : 1≤tx) {j : Nat} (hj : j < 9) : endC c tx (1 + j * 3)=if c (1 + j * 3)=tx then 0 else c (1 + j * 3) := by
 unfold endC
 rcases h.of tx with ⟨h2,h3⟩ | ⟨i,h2,h3,_,h4⟩
 ·rw [if_pos h2,if_neg (h3 j hj ht)]
 ·rw [if_neg (by omega),h2,Int.toNat_natCast,up_tx]
  have hn := h.n1
  by_cases e : j=i
  ·subst e; rw [if_pos rfl,if_pos h4]
  ·rw [if_neg e,if_neg]
   intro h5
   exact e (h.one j i hj (by omega) (h5.trans h4.symm) (by omega))
section
variable {N : Int} {n : Nat} {s : KS}
theorem KI.put (h : KI N n s) {t : TT} (ht : TIT (n + 1) t) (h1 : 1≤t.1) (h2 : t.1≤s.la) : KI N (n + 1) (setK s t) := by
 have hs := ht.hst
 have key : ∀ (tr : LM) (cl : Nat → Int),Inv16 N cl → tr.length≤2 * (n + 1) → (∀ j,j < 9 → cl (1 + j * 3) ≠ 0 → cl (1 + j * 3)=s.cl (1 + j * 3)∧(cl (1 + j * 3)=t.1 → t.2.1≤2)) → KI N (n + 1) { s with m := mset ieq s.m t.1 t,tr := tr,cl := cl } := by
  intro tr cl hc hr hb
  refine ⟨hc,?_,?_,uniq_mset h.hu _ _,fun k=>?_,fun k k1 k2=>?_,fun j hj hne=>?_,hr⟩
  ·have := h.ht; show 0≤s.ti∧s.ti≤_; omega
  ·have := h.hl; show 0≤s.la∧s.la≤_; omega
  ·show mhas ieq (mset ieq s.m t.1 t) k=true ↔ 1≤k∧k≤s.la
   rw [mhas_mset eqk_int,Bool.or_eq_true,h.hk]
   simp [ieq]
   omega
  ·show TIT _ (tAt (mset ieq s.m t.1 t) k)∧(tAt (mset ieq s.m t.1 t) k).1=k
   rw [tAt_mset]
   by_cases e : k=t.1
   ·rw [if_pos e]; exact ⟨ht,e.symm⟩
   ·rw [if_neg e]; exact ⟨(h.hT k k1 k2).1.mono (by omega),(h.hT k k1 k2).2⟩
  ·obtain ⟨e1,e2⟩ := hb j hj hne
   have hne' : cl (1 + j * 3) ≠ 0 := hne
   obtain ⟨b1,b2,b3⟩ := h.hb j hj (e1 ▸ hne')
   show 1≤cl (1 + j * 3)∧cl (1 + j * 3)≤s.la∧(tAt (mset ieq s.m t.1 t) (cl (1 + j * 3))).2.1≤2
   rw [tAt_mset]
   by_cases e : cl (1 + j * 3)=t.1
   ·rw [if_pos e]; exact ⟨by omega,by omega,e2 e⟩
   ·rw [if_neg e,e1]; exact ⟨b1,b2,b3⟩
 have hr := h.hr
 unfold setK
 by_cases he : (tAt s.m t.1).2.1=t.2.1
 ·rw [if_pos he]
  refine key s.tr s.cl h.hc (by omega) fun j hj hne=>⟨rfl,fun e=>?_⟩
  have := (h.hb j hj hne).2.2
  rw [e] at this
  omega
 ·rw [if_neg he]
  have hl := evS_len t
  have hr' : (s.tr++evS t).length≤2 * (n + 1) := by rw [List.length_append]; omega
  by_cases h34 : t.2.1=3∨t.2.1=4
  ·rw [if_pos h34]
   refine key _ _ (endC_inv h.hc _) hr' fun j hj hne=>?_
   rw [endC_tx h.hc h1 hj] at hne ⊢
   by_cases e : s.cl (1 + j * 3)=t.1
   ·rw [if_pos e] at hne; exact absurd rfl hne
   ·rw [if_neg e]; exact ⟨rfl,fun h=>absurd h e⟩
  ·rw [if_neg h34]
   refine key _ _ h.hc hr' fun j hj hne=>⟨rfl,fun _=>by have : 1≤t.2.1∧t.2.1≤4 := hs; omega⟩
theorem kset_is (h : KI N n s) (hn : n≤100000) (c : Nat → Int) (t : TT) (extra : LM) (hx : extra.length≤1) :
  kset_P c s.cl s.ti s.la s.m (s.tr++extra) t.1 t.2.1 t.2.2.1 t.2.2.2.1 t.2.2.2.2.1 t.2.2.2.2.2.1 t.2.2.2.2.2.2.1 t.2.2.2.2.2.2.2.1 t.2.2.2.2.2.2.2.2.1 t.2.2.2.2.2.2.2.2.2.1 t.2.2.2.2.2.2.2.2.2.2.1 t.2.2.2.2.2.2.2.2.2.2.2 ∧
  kset_F c s.cl s.ti s.la s.m (s.tr++extra) t.1 t.2.1 t.2.2.1 t.2.2.2.1 t.2.2.2.2.1 t.2.2.2.2.2.1 t.2.2.2.2.2.2.1 t.2.2.2.2.2.2.2.1 t.2.2.2.2.2.2.2.2.1 t.2.2.2.2.2.2.2.2.2.1 t.2.2.2.2.2.2.2.2.2.2.1 t.2.2.2.2.2.2.2.2.2.2.2 =
   ((setK { s with tr := s.tr++extra } t).m,(setK { s with tr := s.tr++extra } t).tr,(setK { s with tr := s.tr++extra } t).cl) := by
 have hr := h.hr
 obtain ⟨e1,e2⟩ := endC_eq h.hc t.1
 have hb : (((s.tr++extra).length : Int) + 1) * 56≤140737488355328 := by rw [List.length_append]; omega
 have e0 : (mget ieq s.m t.1 (0,0,0,0,false,0,(fun _=>0),0,[],[],[],[]))=tAt s.m t.1 := rfl
 unfold kset_P kset_F setK evS
 rw [e0]
 by_cases he : (tAt s.m t.1).2.1=t.2.1
 ·rw [if_pos he,if_pos he,if_pos he]; exact ⟨trivial,rfl⟩
 ·rw [if_neg he,if_neg he,if_neg he]
  by_cases h2 : t.2.1=2
  ·rw [if_pos h2,if_pos h2,if_pos h2,if_neg (by omega)]; exact ⟨⟨by omega,trivial⟩,rfl⟩
  ·rw [if_neg h2,if_neg h2,if_neg h2]
   by_cases h4 : t.2.1=4
   ·rw [if_pos h4,if_pos h4,if_pos h4,if_pos (.inr h4),e2]; exact ⟨⟨by omega,e1,trivial⟩,rfl⟩
   ·rw [if_neg h4,if_neg h4,if_neg h4]
    by_cases h3 : t.2.1=3
    ·rw [if_pos h3,if_pos h3,if_pos h3,if_pos (.inl h3),e2]; exact ⟨⟨by omega,e1,trivial⟩,rfl⟩
    ·rw [if_neg h3,if_neg h3,if_neg h3,if_neg (by omega),List.append_nil]; exact ⟨trivial,rfl⟩
end
end Go.E
namespace Go.E
open Go
def askT (t : TT) (s : Int) (a : Nat → Int) (m : Int) := (askC t.1 t.2.1 t.2.2.1 t.2.2.2.1 t.2.2.2.2.1 t.2.2.2.2.2.1 t.2.2.2.2.2.2.1 t.2.2.2.2.2.2.2.1 t.2.2.2.2.2.2.2.2.1 t.2.2.2.2.2.2.2.2.2.1 t.2.2.2.2.2.2.2.2.2.2.1 t.2.2.2.2.2.2.2.2.2.2.2) s a m
def ansT (t : TT) (m : Nat → Int) := (ansC t.1 t.2.1 t.2.2.1 t.2.2.2.1 t.2.2.2.2.1 t.2.2.2.2.2.1 t.2.2.2.2.2.2.1 t.2.2.2.2.2.2.2.1 t.2.2.2.2.2.2.2.2.1 t.2.2.2.2.2.2.2.2.2.1 t.2.2.2.2.2.2.2.2.2.2.1 t.2.2.2.2.2.2.2.2.2.2.2) m
def finT (t : TT) := (finC t.1 t.2.1 t.2.2.1 t.2.2.2.1 t.2.2.2.2.1 t.2.2.2.2.2.1 t.2.2.2.2.2.2.1 t.2.2.2.2.2.2.2.1 t.2.2.2.2.2.2.2.2.1 t.2.2.2.2.2.2.2.2.2.1 t.2.2.2.2.2.2.2.2.2.2.1 t.2.2.2.2.2.2.2.2.2.2.2)
def voteT (t : TT) (m : Nat → Int) := (voteC t.1 t.2.1 t.2.2.1 t.2.2.2.1 t.2.2.2.2.1 t.2.2.2.2.2.1 t.2.2.2.2.2.2.1 t.2.2.2.2.2.2.2.1 t.2.2.2.2.2.2.2.2.1 t.2.2.2.2.2.2.2.2.2.1 t.2.2.2.2.2.2.2.2.2.2.1 t.2.2.2.2.2.2.2.2.2.2.2) m
def abortT (t : TT) (r : Int) := (abortC t.1 t.2.1 t.2.2.1 t.2.2.2.1 t.2.2.2.2.1 t.2.2.2.2.2.1 t.2.2.2.2.2.2.1 t.2.2.2.2.2.2.2.1 t.2.2.2.2.2.2.2.2.1 t.2.2.2.2.2.2.2.2.2.1 t.2.2.2.2.2.2.2.2.2.2.1 t.2.2.2.2.2.2.2.2.2.2.2) r
def ackT (t : TT) (m : Nat → Int) := (ackC t.1 t.2.1 t.2.2.1 t.2.2.2.1 t.2.2.2.2.1 t.2.2.2.2.2.1 t.2.2.2.2.2.2.1 t.2.2.2.2.2.2.2.1 t.2.2.2.2.2.2.2.2.1 t.2.2.2.2.2.2.2.2.2.1 t.2.2.2.2.2.2.2.2.2.2.1 t.2.2.2.2.2.2.2.2.2.2.2) m
def newT (tx : Int) : TT := (tx,1,0,0,false,0,(fun _=>0),0,[],[],[],[])
def aliveC (N : Int) (c : Nat → Int) (id : Int) : Int := if id < 1∨N < id then 10 else if nz (c (1 + (id.toNat * 3 + 2)))=true then 11 else 0
def beginK (N : Int) (s : KS) (id : Int) : Int × Int × KS :=
 if aliveC N s.cl id=0 then
  if s.cl (1 + id.toNat * 3)=0 then (s.la + 1,0,⟨updI s.cl (1 + id.toNat * 3) (s.la + 1),s.ti,s.la + 1,mset ieq s.m (s.la + 1) (newT (s.la + 1)),s.tr++[updI (updI (updI (fun _=>0) 0 1) 1 id) 2 (s.la + 1)]⟩)
  else (0,8,s)
 else (0,aliveC N s.cl id,s)
def askE (tx : Int) (a : Nat → Int) (m : Int) : Nat → Int := updI (updRI (updI (updI (fun _=>0) 0 2) 2 tx) 3 2 a) 5 m
def lockK (sh N : Int) (s : KS) (id : Int) (a : Nat → Int) (m : Int) : LM × Int × KS :=
 if aliveC N s.cl id=0 then
  if s.cl (1 + id.toNat * 3)=0 then ([],10,s)
  else if (resShard_F a sh).2=0 then
   if (askT (tAt s.m (s.cl (1 + id.toNat * 3))) (resShard_F a sh).1 a m).2.2=0 then
    ((askT (tAt s.m (s.cl (1 + id.toNat * 3))) (resShard_F a sh).1 a m).2.1,0,setK { s with tr := s.tr++[askE (askT (tAt s.m (s.cl (1 + id.toNat * 3))) (resShard_F a sh).1 a m).1.1 a m] } (askT (tAt s.m (s.cl (1 + id.toNat * 3))) (resShard_F a sh).1 a m).1)
   else ([],(askT (tAt s.m (s.cl (1 + id.toNat * 3))) (resShard_F a sh).1 a m).2.2,s)
  else ([],1,s)
 else ([],aliveC N s.cl id,s)
def doneK (s : KS) (r : TT × LM × Int) : LM × Int × KS := if r.2.2=0 then (r.2.1,0,setK s r.1) else ([],r.2.2,s)
def commitK (N : Int) (s : KS) (id : Int) : LM × Int × KS :=
 if aliveC N s.cl id=0 then
  if s.cl (1 + id.toNat * 3)=0 then ([],10,s)
  else doneK s (finT (tAt s.m (s.cl (1 + id.toNat * 3))))
 else ([],aliveC N s.cl id,s)
def abortK (s : KS) (tx re : Int) (l : List Int) : LM × Int × KS :=
 if (tAt s.m tx).2.1 ∈ l then doneK s (abortT (tAt s.m tx) re) else ([],11,s)
def abortCK (N : Int) (s : KS) (id : Int) : LM × Int × KS :=
 if aliveC N s.cl id=0 then
  if s.cl (1 + id.toNat * 3)=0 then ([],10,s)
  else abortK s (tAt s.m (s.cl (1 + id.toNat * 3))).1 1 [1]
 else ([],aliveC N s.cl id,s)
def crashK (N : Int) (s : KS) (id : Int) : Int × KS :=
 if aliveC N s.cl id=0 then (0,{ s with cl := deadC s.cl id.toNat s.ti,tr := s.tr++[updI (updI (fun _=>0) 0 8) 1 id] })
 else (aliveC N s.cl id,s)
section
variable {N : Int} {n : Nat} {s : KS}
theorem kalive_is (h : Inv16 N s.cl) (c : Nat → Int) (id : Int) : kalive_P c s.cl s.ti s.la s.m s.tr id∧kalive_F c s.cl s.ti s.la s.m s.tr id=(aliveC N s.cl id,s.cl) := by
 obtain ⟨b1,b2⟩ := begin_eq h id 1048576
 have hn := h.n1
 unfold kalive_P kalive_F aliveC calive_P calive_F
 rw [h.c0,b2]
 simp only [Bool.or_eq_true,decide_eq_true_eq,Nat.add_assoc]
 by_cases h1 : id < 1∨N < id
 ·simp only [if_pos h1]
  rw [if_neg Bool.false_ne_true,if_neg Bool.false_ne_true]
  exact ⟨⟨trivial,b1,by unfold errIs_P; decide,ite_intro (fun _=>trivial) fun _=>trivial⟩,rfl⟩
 ·simp only [if_neg h1]
  have h3 : ¬ ((1048576 : Int) < 1∨(1048576 : Int) < 1048576) := by omega
  by_cases h2 : nz (s.cl (1 + (id.toNat * 3 + 2)))=true
  ·simp only [if_neg h3,if_pos h2,h2,Bool.not_true]
   rw [if_neg Bool.false_ne_true,if_neg Bool.false_ne_true]
   exact ⟨⟨⟨⟨by omega,by omega⟩,trivial⟩,b1,by unfold errIs_P; decide,ite_intro (fun _=>trivial) fun _=>trivial⟩,rfl⟩
  ·rw [Bool.not_eq_true] at h2
   simp only [h2,Bool.not_false]
   rw [if_pos trivial,if_pos trivial,if_neg Bool.false_ne_true]
   exact ⟨⟨⟨⟨by omega,by omega⟩,trivial⟩,trivial⟩,rfl⟩
theorem aliveC_0 {c : Nat → Int} {id : Int} : aliveC N c id=0 ↔ ¬ (id < 1∨N < id)∧¬ nz (c (1 + (id.toNat * 3 + 2)))=true := by
 unfold aliveC
 by_cases h1 : id < 1∨N < id
 ·rw [if_pos h1]; exact ⟨fun h=>(by cases h),fun h=>absurd h1 h.1⟩
 ·rw [if_neg h1]
  by_cases h2 : nz (c (1 + (id.toNat * 3 + 2)))=true
  ·rw [if_pos h2]; exact ⟨fun h=>(by cases h),fun h=>absurd h2 h.2⟩
  ·rw [if_neg h2]; exact ⟨fun _=>⟨h1,h2⟩,fun _=>rfl⟩
theorem cnow_is (h : Inv16 N s.cl) {id : Int} (ha : aliveC N s.cl id=0) : cnow_P s.cl id∧cnow_F s.cl id=if s.cl (1 + id.toNat * 3)=0 then (0,10) else (s.cl (1 + id.toNat * 3),0) := by
 have hn := h.n1
 have h1 := (aliveC_0.1 ha).1
 unfold cnow_P cnow_F
 rw [h.c0]
 simp only [Bool.or_eq_true,decide_eq_true_eq]
 rw [if_neg h1,if_neg h1]
 exact ⟨⟨⟨by omega,by omega⟩,ite_intro (fun _=>trivial) fun _=>trivial⟩,rfl⟩
theorem cof_new (h : KI N n s) : cofI s.cl (s.la + 1)=0 := by
 rcases h.hc.of (s.la + 1) with ⟨h1,_⟩ | ⟨j,h1,h2,h3,h4⟩
 ·exact h1
 ·have hn := h.hc.n1
  have := (h.hb j (by omega) (by omega)).2.1
  omega
theorem kbegin_is (h : KI N n s) (hn : n≤100000) (c : Nat → Int) (id : Int) : kbegin_P c s.cl s.ti s.la s.m s.tr id ∧
  kbegin_F c s.cl s.ti s.la s.m s.tr id=((beginK N s id).1,(beginK N s id).2.1,(beginK N s id).2.2.la,(beginK N s id).2.2.m,(beginK N s id).2.2.tr,(beginK N s id).2.2.cl) := by
 obtain ⟨a1,a2⟩ := kalive_is h.hc c id
 have hl := h.hl
 have hr := h.hr
 unfold kbegin_P kbegin_F beginK
 rw [a2]
 by_cases ha : aliveC N s.cl id=0
 ·simp only [if_pos ha]
  obtain ⟨n1,n2⟩ := cnow_is h.hc ha
  obtain ⟨b1,b2⟩ := begin_eq h.hc id (s.la + 1)
  have e1 := (aliveC_0.1 ha).1
  have e2 := (aliveC_0.1 ha).2
  have et : tnew_F (s.la + 1)=(newT (s.la + 1),0) := by
   rw [tnew_is,if_pos (by omega)]
   rfl
  rw [n2,et]
  by_cases h0 : s.cl (1 + id.toNat * 3)=0
  ·simp only [if_pos h0]
   rw [if_neg e1,if_neg (by omega),if_neg e2,if_pos h0,if_pos (cof_new h)] at b2
   have hx : ¬ (10 : Int)=0 := by decide
   rw [if_neg hx,if_neg hx,if_pos trivial,if_pos trivial]
   have e3 : (newT (s.la + 1)).1=s.la + 1 := rfl
   rw [e3,b2]
   exact ⟨⟨a1,n1,by unfold inI64; omega,by unfold inI64; omega,b1,by omega,trivial⟩,rfl⟩
  ·simp only [if_neg h0]
   rw [if_pos trivial,if_pos trivial]
   exact ⟨⟨a1,n1,trivial⟩,rfl⟩
 ·simp only [if_neg ha]
  exact ⟨⟨a1,trivial⟩,trivial⟩
theorem newT_TIT {t : Int} (h : 1≤t∧t≤1048576) : TIT 0 (newT t) := new_TI h
theorem beginK_KI (h : KI N n s) (hn : n≤100000) (id : Int) : KI N (n + 1) (beginK N s id).2.2 := by
 have hl := h.hl
 have hr := h.hr
 have hN := h.hc.n1
 unfold beginK
 by_cases ha : aliveC N s.cl id=0
 ·rw [if_pos ha]
  by_cases h0 : s.cl (1 + id.toNat * 3)=0
  ·rw [if_pos h0]
   have e1 := (aliveC_0.1 ha).1
   have hid := h.hc.toN e1
   refine ⟨h.hc.put hid.1 (by omega) fun _ j j1 j2 e=>?_,?_,?_,uniq_mset h.hu _ _,fun k=>?_,fun k k1 k2=>?_,fun j hj hne=>?_,?_⟩
   ·have := h.hb j j2 (by omega); omega
   ·have := h.ht; show 0≤s.ti∧s.ti≤_; omega
   ·show 0≤s.la + 1∧s.la + 1≤_; omega
   ·show mhas ieq (mset ieq s.m (s.la + 1) _) k=true ↔ 1≤k∧k≤s.la + 1
    rw [mhas_mset eqk_int,Bool.or_eq_true,h.hk]
    simp [ieq]
    omega
   ·show TIT _ (tAt (mset ieq s.m (s.la + 1) _) k)∧(tAt (mset ieq s.m (s.la + 1) _) k).1=k
    have k2' : k≤s.la + 1 := k2
    rw [tAt_mset]
    by_cases e : k=s.la + 1
    ·rw [if_pos e]; exact ⟨(newT_TIT (by omega)).mono (by omega),e.symm⟩
    ·rw [if_neg e]
     have := h.hT k k1 (by omega)
     exact ⟨this.1.mono (by omega),this.2⟩
   ·show 1≤updI s.cl (1 + id.toNat * 3) (s.la + 1) (1 + j * 3)∧updI s.cl (1 + id.toNat * 3) (s.la + 1) (1 + j * 3)≤s.la + 1∧(tAt (mset ieq s.m (s.la + 1) _) (updI s.cl (1 + id.toNat * 3) (s.la + 1) (1 + j * 3))).2.1≤2
    have hne' : updI s.cl (1 + id.toNat * 3) (s.la + 1) (1 + j * 3) ≠ 0 := hne
    rw [up_tx] at hne' ⊢
    rw [tAt_mset]
    by_cases e : j=id.toNat
    ·rw [if_pos e,if_pos rfl]; exact ⟨by omega,by omega,by show (1 : Int)≤2; omega⟩
    ·rw [if_neg e] at hne' ⊢
     have := h.hb j hj hne'
     rw [if_neg (by omega)]
     exact ⟨this.1,by omega,this.2.2⟩
   ·show (s.tr++[_]).length≤_
    rw [List.length_append,List.length_singleton]; omega
  ·rw [if_neg h0]; exact h.mono (by omega)
 ·rw [if_neg ha]; exact h.mono (by omega)
end
end Go.E
namespace Go.E
open Go
section
variable {N : Int} {n : Nat} {s : KS}
theorem KI.at0 (h : KI N n s) {k : Int} (hk : ¬ (1≤k∧k≤s.la)) : tAt s.m k=T0 := by
 unfold tAt
 refine mget_none ?_
 cases hm : mhas ieq s.m k with
 | false=>rfl
 | true=>exact absurd ((h.hk k).1 hm) hk
theorem KI.now (h : KI N n s) {id : Int} (ha : aliveC N s.cl id=0) (h0 : s.cl (1 + id.toNat * 3) ≠ 0) : 1≤s.cl (1 + id.toNat * 3)∧s.cl (1 + id.toNat * 3)≤s.la := by
 have hN := h.hc.n1
 have := h.hc.toN (aliveC_0.1 ha).1
 have := h.hb id.toNat (by omega) h0
 exact ⟨this.1,this.2.1⟩
theorem KI.ext (h : KI N n s) (e : Nat → Int) : KI N (n + 1) { s with tr := s.tr++[e] } where
 hc := h.hc
 ht := by have := h.ht; show 0≤s.ti∧s.ti≤_; omega
 hl := by have := h.hl; show 0≤s.la∧s.la≤_; omega
 hu := h.hu
 hk := h.hk
 hT := fun k h1 h2=>⟨(h.hT k h1 h2).1.mono (by omega),(h.hT k h1 h2).2⟩
 hb := h.hb
 hr := by have := h.hr; show (s.tr++[e]).length≤_; rw [List.length_append,List.length_singleton]; omega
theorem kset_is0 (h : KI N n s) (hn : n≤100000) (c : Nat → Int) (t : TT) :
  (kset_P c s.cl s.ti s.la s.m s.tr t.1 t.2.1 t.2.2.1 t.2.2.2.1 t.2.2.2.2.1 t.2.2.2.2.2.1 t.2.2.2.2.2.2.1 t.2.2.2.2.2.2.2.1 t.2.2.2.2.2.2.2.2.1 t.2.2.2.2.2.2.2.2.2.1 t.2.2.2.2.2.2.2.2.2.2.1 t.2.2.2.2.2.2.2.2.2.2.2)∧(kset_F c s.cl s.ti s.la s.m s.tr t.1 t.2.1 t.2.2.1 t.2.2.2.1 t.2.2.2.2.1 t.2.2.2.2.2.1 t.2.2.2.2.2.2.1 t.2.2.2.2.2.2.2.1 t.2.2.2.2.2.2.2.2.1 t.2.2.2.2.2.2.2.2.2.1 t.2.2.2.2.2.2.2.2.2.2.1 t.2.2.2.2.2.2.2.2.2.2.2)=((setK s t).m,(setK s t).tr,(setK s t).cl) := by
 have := kset_is h hn c t [] (by simp)
 rw [List.append_nil] at this
 exact this
theorem kset_is1 (h : KI N n s) (hn : n≤100000) (c : Nat → Int) (t : TT) (e : Nat → Int) :
  (kset_P c s.cl s.ti s.la s.m (s.tr++[e]) t.1 t.2.1 t.2.2.1 t.2.2.2.1 t.2.2.2.2.1 t.2.2.2.2.2.1 t.2.2.2.2.2.2.1 t.2.2.2.2.2.2.2.1 t.2.2.2.2.2.2.2.2.1 t.2.2.2.2.2.2.2.2.2.1 t.2.2.2.2.2.2.2.2.2.2.1 t.2.2.2.2.2.2.2.2.2.2.2)∧(kset_F c s.cl s.ti s.la s.m (s.tr++[e]) t.1 t.2.1 t.2.2.1 t.2.2.2.1 t.2.2.2.2.1 t.2.2.2.2.2.1 t.2.2.2.2.2.2.1 t.2.2.2.2.2.2.2.1 t.2.2.2.2.2.2.2.2.1 t.2.2.2.2.2.2.2.2.2.1 t.2.2.2.2.2.2.2.2.2.2.1 t.2.2.2.2.2.2.2.2.2.2.2)=((setK { s with tr := s.tr++[e] } t).m,(setK { s with tr := s.tr++[e] } t).tr,(setK { s with tr := s.tr++[e] } t).cl) :=
 kset_is h hn c t [e] (by simp)
theorem setK_ti (s : KS) (t : TT) : (setK s t).ti=s.ti∧(setK s t).la=s.la := by
 unfold setK
 split <;> exact ⟨rfl,rfl⟩
theorem setK_m (s : KS) (t : TT) : (setK s t).m=mset ieq s.m t.1 t := by
 unfold setK
 split <;> rfl
theorem done_KI (h : KI N n s) {r : TT × LM × Int} (h1 : TIT (n + 1) r.1) (h2 : 1≤r.1.1∧r.1.1≤s.la) : KI N (n + 1) (doneK s r).2.2 := by
 unfold doneK
 split
 ·exact h.put h1 h2.1 h2.2
 ·exact h.mono (by omega)
theorem fin_tx (t : TT) : (finT t).1.1=t.1 := by
 unfold finT finC
 split
 ·split
  ·rfl
  ·split <;> rfl
 ·rfl
theorem abort_tx (t : TT) (r : Int) : (abortT t r).1.1=t.1 := by
 unfold abortT abortC
 split
 ·split <;> rfl
 ·rfl
theorem ask_tx (t : TT) (x : Int) (a : Nat → Int) (m : Int) : (askT t x a m).1.1=t.1 := by
 unfold askT askC
 split
 ·split
  ·split
   ·rfl
   ·split <;> rfl
  ·rfl
 ·rfl
theorem ans_tx (t : TT) (m : Nat → Int) : (ansT t m).1.1=t.1 := by
 unfold ansT ansC
 split
 ·split
  ·split <;> rfl
  ·rfl
 ·rfl
theorem vote_tx (t : TT) (m : Nat → Int) : (voteT t m).1.1=t.1 := by
 unfold voteT voteC
 split
 ·split
  ·split
   ·split
    ·rfl
    ·split <;> rfl
   ·rfl
  ·rfl
 ·rfl
theorem ack_tx (t : TT) (m : Nat → Int) : (ackT t m).1.1=t.1 := by
 unfold ackT ackC
 split
 ·split
  ·split <;> rfl
  ·rfl
 ·rfl
theorem klock_is (h : KI N n s) (hn : n≤100000) (c : Nat → Int) (hc : 1≤c 0∧c 0≤64) (id : Int) (a : Nat → Int) (m : Int) : klock_P c s.cl s.ti s.la s.m s.tr id a m ∧
  klock_F c s.cl s.ti s.la s.m s.tr id a m=((lockK (c 0) N s id a m).1,(lockK (c 0) N s id a m).2.1,(lockK (c 0) N s id a m).2.2.m,(lockK (c 0) N s id a m).2.2.tr,(lockK (c 0) N s id a m).2.2.cl) := by
 obtain ⟨a1,a2⟩ := kalive_is h.hc c id
 have hr := h.hr
 unfold klock_P klock_F lockK
 rw [a2]
 by_cases ha : aliveC N s.cl id=0
 ·simp only [if_pos ha]
  obtain ⟨n1,n2⟩ := cnow_is h.hc ha
  rw [n2]
  by_cases h0 : s.cl (1 + id.toNat * 3)=0
  ·simp only [if_pos h0]
   have hx : ¬ (10 : Int)=0 := by decide
   rw [if_neg hx,if_neg hx]
   exact ⟨⟨a1,n1,trivial⟩,rfl⟩
  ·simp only [if_neg h0]
   rw [if_pos trivial,if_pos trivial]
   have hw := h.now ha h0
   have hT := (h.hT _ hw.1 hw.2).1
   have hP : resShard_P a (c 0) := by
    unfold resShard_P
    refine ite_intro (fun hok=>ite_intro (fun _=>trivial) fun _=>?_) fun _=>trivial
    unfold resOk_F at hok
    simp only [Bool.and_eq_true,decide_eq_true_eq] at hok
    have h3 := Int.tmod_nonneg (c 0) (a := a 0 - 1) (by omega)
    have h4 := Int.tmod_lt_of_pos (a 0 - 1) (b := c 0) (by omega)
    exact ⟨by unfold inI64; omega,by omega,by unfold inI64; omega,trivial⟩
   by_cases hs : (resShard_F a (c 0)).2=0
   ·simp only [if_pos hs]
    obtain ⟨t1,t2⟩ := task_is hT (by omega) (resShard_F a (c 0)).1 a m
    have e0 : (mget ieq s.m (s.cl (1 + id.toNat * 3)) (0,0,0,0,false,0,(fun _=>0),0,[],[],[],[]))=tAt s.m (s.cl (1 + id.toNat * 3)) := rfl
    rw [e0,t2]
    have e1 : (askC (tAt s.m (s.cl (1 + id.toNat * 3))).1 (tAt s.m (s.cl (1 + id.toNat * 3))).2.1 (tAt s.m (s.cl (1 + id.toNat * 3))).2.2.1 (tAt s.m (s.cl (1 + id.toNat * 3))).2.2.2.1 (tAt s.m (s.cl (1 + id.toNat * 3))).2.2.2.2.1 (tAt s.m (s.cl (1 + id.toNat * 3))).2.2.2.2.2.1 (tAt s.m (s.cl (1 + id.toNat * 3))).2.2.2.2.2.2.1 (tAt s.m (s.cl (1 + id.toNat * 3))).2.2.2.2.2.2.2.1 (tAt s.m (s.cl (1 + id.toNat * 3))).2.2.2.2.2.2.2.2.1 (tAt s.m (s.cl (1 + id.toNat * 3))).2.2.2.2.2.2.2.2.2.1 (tAt s.m (s.cl (1 + id.toNat * 3))).2.2.2.2.2.2.2.2.2.2.1 (tAt s.m (s.cl (1 + id.toNat * 3))).2.2.2.2.2.2.2.2.2.2.2) (resShard_F a (c 0)).1 a m=askT (tAt s.m (s.cl (1 + id.toNat * 3))) (resShard_F a (c 0)).1 a m := rfl
    rw [e1]
    by_cases hz : (askT (tAt s.m (s.cl (1 + id.toNat * 3))) (resShard_F a (c 0)).1 a m).2.2=0
    ·simp only [if_pos hz]
     obtain ⟨k1,k2⟩ := kset_is1 h hn c (askT (tAt s.m (s.cl (1 + id.toNat * 3))) (resShard_F a (c 0)).1 a m).1 (askE (askT (tAt s.m (s.cl (1 + id.toNat * 3))) (resShard_F a (c 0)).1 a m).1.1 a m)
     refine ⟨⟨a1,n1,hP,t1,by omega,k1,trivial⟩,?_⟩
     unfold askE at k2
     rw [k2]
     rfl
    ·simp only [if_neg hz]
     exact ⟨⟨a1,n1,hP,t1,trivial⟩,trivial⟩
   ·simp only [if_neg hs]
    exact ⟨⟨a1,n1,hP,trivial⟩,trivial⟩
 ·simp only [if_neg ha]
  exact ⟨⟨a1,trivial⟩,trivial⟩
theorem lockK_KI (h : KI N n s) (sh id : Int) (a : Nat → Int) (m : Int) : KI N (n + 2) (lockK sh N s id a m).2.2 := by
 unfold lockK
 by_cases ha : aliveC N s.cl id=0
 ·rw [if_pos ha]
  by_cases h0 : s.cl (1 + id.toNat * 3)=0
  ·rw [if_pos h0]; exact h.mono (by omega)
  ·rw [if_neg h0]
   by_cases hs : (resShard_F a sh).2=0
   ·rw [if_pos hs]
    have hw := h.now ha h0
    obtain ⟨hT,hx⟩ := h.hT _ hw.1 hw.2
    have hq := askC_TI hT (resShard_F a sh).1 a m
    by_cases hz : (askT (tAt s.m (s.cl (1 + id.toNat * 3))) (resShard_F a sh).1 a m).2.2=0
    ·rw [if_pos hz]
     have ht := ask_tx (tAt s.m (s.cl (1 + id.toNat * 3))) (resShard_F a sh).1 a m
     refine (h.ext _).put (TIT.mono hq (by omega)) ?_ ?_
     ·show 1≤(askT (tAt s.m (s.cl (1 + id.toNat * 3))) (resShard_F a sh).1 a m).1.1
      rw [ht,hx]; exact hw.1
     ·show (askT (tAt s.m (s.cl (1 + id.toNat * 3))) (resShard_F a sh).1 a m).1.1≤s.la
      rw [ht,hx]; exact hw.2
    ·rw [if_neg hz]; exact h.mono (by omega)
   ·rw [if_neg hs]; exact h.mono (by omega)
 ·rw [if_neg ha]; exact h.mono (by omega)
theorem kcommit_is (h : KI N n s) (hn : n≤100000) (c : Nat → Int) (id : Int) : kcommit_P c s.cl s.ti s.la s.m s.tr id ∧
  kcommit_F c s.cl s.ti s.la s.m s.tr id=((commitK N s id).1,(commitK N s id).2.1,(commitK N s id).2.2.m,(commitK N s id).2.2.tr,(commitK N s id).2.2.cl) := by
 obtain ⟨a1,a2⟩ := kalive_is h.hc c id
 unfold kcommit_P kcommit_F commitK doneK
 rw [a2]
 by_cases ha : aliveC N s.cl id=0
 ·simp only [if_pos ha]
  obtain ⟨n1,n2⟩ := cnow_is h.hc ha
  rw [n2]
  by_cases h0 : s.cl (1 + id.toNat * 3)=0
  ·simp only [if_pos h0]
   have hx : ¬ (10 : Int)=0 := by decide
   rw [if_neg hx,if_neg hx]
   exact ⟨⟨a1,n1,trivial⟩,rfl⟩
  ·simp only [if_neg h0]
   rw [if_pos trivial,if_pos trivial]
   have hw := h.now ha h0
   have hT := (h.hT _ hw.1 hw.2).1
   obtain ⟨t1,t2⟩ := tfinish_is hT (by omega)
   have e0 : (mget ieq s.m (s.cl (1 + id.toNat * 3)) (0,0,0,0,false,0,(fun _=>0),0,[],[],[],[]))=tAt s.m (s.cl (1 + id.toNat * 3)) := rfl
   rw [e0,t2]
   have e1 : (finC (tAt s.m (s.cl (1 + id.toNat * 3))).1 (tAt s.m (s.cl (1 + id.toNat * 3))).2.1 (tAt s.m (s.cl (1 + id.toNat * 3))).2.2.1 (tAt s.m (s.cl (1 + id.toNat * 3))).2.2.2.1 (tAt s.m (s.cl (1 + id.toNat * 3))).2.2.2.2.1 (tAt s.m (s.cl (1 + id.toNat * 3))).2.2.2.2.2.1 (tAt s.m (s.cl (1 + id.toNat * 3))).2.2.2.2.2.2.1 (tAt s.m (s.cl (1 + id.toNat * 3))).2.2.2.2.2.2.2.1 (tAt s.m (s.cl (1 + id.toNat * 3))).2.2.2.2.2.2.2.2.1 (tAt s.m (s.cl (1 + id.toNat * 3))).2.2.2.2.2.2.2.2.2.1 (tAt s.m (s.cl (1 + id.toNat * 3))).2.2.2.2.2.2.2.2.2.2.1 (tAt s.m (s.cl (1 + id.toNat * 3))).2.2.2.2.2.2.2.2.2.2.2)=finT (tAt s.m (s.cl (1 + id.toNat * 3))) := rfl
   rw [e1]
   by_cases hz : (finT (tAt s.m (s.cl (1 + id.toNat * 3)))).2.2=0
   ·simp only [if_pos hz]
    obtain ⟨k1,k2⟩ := kset_is0 h hn c (finT (tAt s.m (s.cl (1 + id.toNat * 3)))).1
    refine ⟨⟨a1,n1,t1,k1,trivial⟩,?_⟩
    rw [k2]
   ·simp only [if_neg hz]
    exact ⟨⟨a1,n1,t1,trivial⟩,trivial⟩
 ·simp only [if_neg ha]
  exact ⟨⟨a1,trivial⟩,trivial⟩
theorem commitK_KI (h : KI N n s) (id : Int) : KI N (n + 1) (commitK N s id).2.2 := by
 unfold commitK
 by_cases ha : aliveC N s.cl id=0
 ·rw [if_pos ha]
  by_cases h0 : s.cl (1 + id.toNat * 3)=0
  ·rw [if_pos h0]; exact h.mono (by omega)
  ·rw [if_neg h0]
   have hw := h.now ha h0
   obtain ⟨hT,hx⟩ := h.hT _ hw.1 hw.2
   refine done_KI h (finC_TI hT) ?_
   rw [fin_tx,hx]; exact hw
 ·rw [if_neg ha]; exact h.mono (by omega)
theorem kabort_is (h : KI N n s) (hn : n≤100000) (c : Nat → Int) (tx re : Int) {l : List Int} (hl : ∀ x ∈ l,1≤x) (hl2 : l.length≤2) : kabort_P c s.cl s.ti s.la s.m s.tr tx re l ∧
  kabort_F c s.cl s.ti s.la s.m s.tr tx re l=((abortK s tx re l).1,(abortK s tx re l).2.1,(abortK s tx re l).2.2.m,(abortK s tx re l).2.2.tr,(abortK s tx re l).2.2.cl) := by
 have e0 : (mget ieq s.m tx (0,0,0,0,false,0,(fun _=>0),0,[],[],[],[]))=tAt s.m tx := rfl
 have hI : hasI_P l (tAt s.m tx).2.1 := by unfold hasI_P; omega
 unfold kabort_P kabort_F abortK doneK
 rw [e0]
 simp only [hasI_F,decide_eq_true_eq]
 by_cases hm : (tAt s.m tx).2.1 ∈ l
 ·simp only [if_pos hm]
  have hk : 1≤tx∧tx≤s.la := by
   rcases Classical.em (1≤tx∧tx≤s.la) with hk | hk
   ·exact hk
   ·rw [h.at0 hk] at hm
    have := hl _ hm
    exact absurd (show (1 : Int)≤0 from this) (by decide)
  have hT := (h.hT _ hk.1 hk.2).1
  obtain ⟨t1,t2⟩ := tabort_is hT (by omega) re
  rw [t2]
  have e1 : (abortC (tAt s.m tx).1 (tAt s.m tx).2.1 (tAt s.m tx).2.2.1 (tAt s.m tx).2.2.2.1 (tAt s.m tx).2.2.2.2.1 (tAt s.m tx).2.2.2.2.2.1 (tAt s.m tx).2.2.2.2.2.2.1 (tAt s.m tx).2.2.2.2.2.2.2.1 (tAt s.m tx).2.2.2.2.2.2.2.2.1 (tAt s.m tx).2.2.2.2.2.2.2.2.2.1 (tAt s.m tx).2.2.2.2.2.2.2.2.2.2.1 (tAt s.m tx).2.2.2.2.2.2.2.2.2.2.2) re=abortT (tAt s.m tx) re := rfl
  rw [e1]
  by_cases hz : (abortT (tAt s.m tx) re).2.2=0
  ·simp only [if_pos hz]
   obtain ⟨k1,k2⟩ := kset_is0 h hn c (abortT (tAt s.m tx) re).1
   refine ⟨⟨hI,t1,k1,trivial⟩,?_⟩
   rw [k2]
  ·simp only [if_neg hz]
   exact ⟨⟨hI,t1,trivial⟩,trivial⟩
 ·simp only [if_neg hm]
  exact ⟨⟨hI,trivial⟩,trivial⟩
theorem abortK_KI (h : KI N n s) (tx re : Int) {l : List Int} (hl : ∀ x ∈ l,1≤x) : KI N (n + 1) (abortK s tx re l).2.2 := by
 unfold abortK
 by_cases hm : (tAt s.m tx).2.1 ∈ l
 ·rw [if_pos hm]
  have hk : 1≤tx∧tx≤s.la := by
   rcases Classical.em (1≤tx∧tx≤s.la) with hk | hk
   ·exact hk
   ·rw [h.at0 hk] at hm
    have := hl _ hm
    exact absurd (show (1 : Int)≤0 from this) (by decide)
  obtain ⟨hT,hx⟩ := h.hT _ hk.1 hk.2
  refine done_KI h (abortC_TI hT re) ?_
  rw [abort_tx,hx]; exact hk
 ·rw [if_neg hm]; exact h.mono (by omega)
theorem kabortC_is (h : KI N n s) (hn : n≤100000) (c : Nat → Int) (id : Int) : kabortC_P c s.cl s.ti s.la s.m s.tr id ∧
  kabortC_F c s.cl s.ti s.la s.m s.tr id=((abortCK N s id).1,(abortCK N s id).2.1,(abortCK N s id).2.2.m,(abortCK N s id).2.2.tr,(abortCK N s id).2.2.cl) := by
 obtain ⟨a1,a2⟩ := kalive_is h.hc c id
 unfold kabortC_P kabortC_F abortCK
 rw [a2]
 by_cases ha : aliveC N s.cl id=0
 ·simp only [if_pos ha]
  obtain ⟨n1,n2⟩ := cnow_is h.hc ha
  rw [n2]
  by_cases h0 : s.cl (1 + id.toNat * 3)=0
  ·simp only [if_pos h0]
   have hx : ¬ (10 : Int)=0 := by decide
   rw [if_neg hx,if_neg hx]
   exact ⟨⟨a1,n1,trivial⟩,rfl⟩
  ·simp only [if_neg h0]
   rw [if_pos trivial,if_pos trivial]
   have e0 : (mget ieq s.m (s.cl (1 + id.toNat * 3)) (0,0,0,0,false,0,(fun _=>0),0,[],[],[],[]))=tAt s.m (s.cl (1 + id.toNat * 3)) := rfl
   rw [e0]
   obtain ⟨k1,k2⟩ := kabort_is h hn c (tAt s.m (s.cl (1 + id.toNat * 3))).1 1 (l := [1]) (by simp) (by simp)
   refine ⟨⟨a1,n1,k1,trivial⟩,?_⟩
   rw [k2]
 ·simp only [if_neg ha]
  exact ⟨⟨a1,trivial⟩,trivial⟩
theorem abortCK_KI (h : KI N n s) (id : Int) : KI N (n + 1) (abortCK N s id).2.2 := by
 unfold abortCK
 by_cases ha : aliveC N s.cl id=0
 ·rw [if_pos ha]
  by_cases h0 : s.cl (1 + id.toNat * 3)=0
  ·rw [if_pos h0]; exact h.mono (by omega)
  ·rw [if_neg h0]
   exact abortK_KI h _ _ (by simp)
 ·rw [if_neg ha]; exact h.mono (by omega)
theorem kcrash_is (h : KI N n s) (hn : n≤100000) (c : Nat → Int) (id : Int) : kcrash_P c s.cl s.ti s.la s.m s.tr id ∧
  kcrash_F c s.cl s.ti s.la s.m s.tr id=((crashK N s id).1,(crashK N s id).2.tr,(crashK N s id).2.cl) := by
 obtain ⟨a1,a2⟩ := kalive_is h.hc c id
 obtain ⟨c1,c2⟩ := crash_eq h.hc id s.ti
 have hr := h.hr
 have ht := h.ht
 unfold kcrash_P kcrash_F crashK
 rw [a2]
 by_cases ha : aliveC N s.cl id=0
 ·simp only [if_pos ha]
  have e := aliveC_0.1 ha
  rw [if_neg e.1,if_neg (by omega),if_neg e.2] at c2
  rw [c2]
  exact ⟨⟨a1,c1,by omega,trivial⟩,rfl⟩
 ·simp only [if_neg ha]
  exact ⟨⟨a1,trivial⟩,trivial⟩
theorem crashK_KI (h : KI N n s) (hn : n≤100000) (id : Int) : KI N (n + 1) (crashK N s id).2 := by
 unfold crashK
 have ht := h.ht
 by_cases ha : aliveC N s.cl id=0
 ·rw [if_pos ha]
  have e := h.hc.toN (aliveC_0.1 ha).1
  have hx := h.ext (updI (updI (fun _=>0) 0 8) 1 id)
  exact { hx with
   hc := h.hc.dead e.1 (by omega)
   hb := fun j hj hne=>by
    have hne' : deadC s.cl id.toNat s.ti (1 + j * 3) ≠ 0 := hne
    show 1≤deadC s.cl id.toNat s.ti (1 + j * 3)∧deadC s.cl id.toNat s.ti (1 + j * 3)≤s.la∧(tAt s.m (deadC s.cl id.toNat s.ti (1 + j * 3))).2.1≤2
    rw [dead_tx] at hne' ⊢
    exact h.hb j hj hne' }
 ·rw [if_neg ha]; exact h.mono (by omega)
end
end Go.E
namespace Go.E
open Go
def openL (m : TM) : LM := (skeys m).flatMap (kopE m)
def probedK (pr : Bool) (s : KS) (m : Nat → Int) : LM × KS :=
 if pr=true then
  if live_F m (openL s.m)=true then
   if back_F m=true then ((abortK s (victim_F m).1 4 [1]).1,(abortK s (victim_F m).1 4 [1]).2.2)
   else if ((!(tAt s.m (m 9)).2.2.2.2.1) || ((!(decide (m 10=0))) && (!(decide (m 10=(tAt s.m (m 9)).2.2.2.1)))))=true then ([],s)
   else if (onward_F (tAt s.m (m 9)).2.2.2.2.2.1 m).2=0 then ([(onward_F (tAt s.m (m 9)).2.2.2.2.2.1 m).1],s) else ([],s)
  else ([],s)
 else ([],s)
def woundK (pr : Bool) (s : KS) (m : Nat → Int) : LM × KS :=
 if (pr || ((!(decide ((tAt s.m (m 9)).2.1=1))) && (!(decide ((tAt s.m (m 9)).2.1=2)))))=true then ([],s)
 else ((abortK s (m 3) 3 [1]).1,(abortK s (m 3) 3 [1]).2.2)
def evG (t : TT) (m : Nat → Int) (tx : Int) : Nat → Int :=
 if m 0=2 then updI (updRI (updI (updI (fun _=>0) 0 3) 2 tx) 3 2 t.2.2.2.2.2.2.1) 5 (m 7) else updI (updRI (updI (updI (fun _=>0) 0 4) 2 tx) 3 2 t.2.2.2.2.2.2.1) 6 (m 8)
def putE (s : KS) (e : Nat → Int) : KS := { s with tr := s.tr++[e] }
def ansK (s : KS) (m : Nat → Int) : LM × KS :=
 if (ansT (tAt s.m (m 3)) m).2=0 then ([],putE (setK s (ansT (tAt s.m (m 3)) m).1) (evG (tAt s.m (m 3)) m (ansT (tAt s.m (m 3)) m).1.1)) else ([],s)
def voteK (s : KS) (m : Nat → Int) : LM × KS :=
 if (voteT (tAt s.m (m 3)) m).2.2=0 then ((voteT (tAt s.m (m 3)) m).2.1,setK s (voteT (tAt s.m (m 3)) m).1) else ([],s)
def ackK (s : KS) (m : Nat → Int) : LM × KS :=
 if (ackT (tAt s.m (m 3)) m).2=0 then ([],setK s (ackT (tAt s.m (m 3)) m).1) else ([],s)
def comesK (pr : Bool) (s : KS) (m : Nat → Int) : LM × KS :=
 if m 0=11 then probedK pr s m
 else if mhas ieq s.m (m 3)=true then
  if m 0=2 then ansK s m else if m 0=3 then ansK s m else if m 0=5 then voteK s m else if m 0=7 then ackK s m
  else if m 0=9 then ((abortK s (m 3) 5 [1,2]).1,(abortK s (m 3) 5 [1,2]).2.2) else if m 0=10 then woundK pr s m else ([],s)
 else ([],s)
def handleK (sh : Int) (pr : Bool) (s : KS) (m : Nat → Int) : LM × Int × KS :=
 if okB m=true then
  if ((!(decide (m 2=0))) || (decide (sh < m 1)))=true then ([],1,s) else ((comesK pr s m).1,0,(comesK pr s m).2)
 else ([],5,s)
section
variable {N : Int} {n : Nat} {s : KS}
theorem KI.keys (h : KI N n s) : skeys s.m=(List.range s.la.toNat).map fun k : Nat=>(k : Int) + 1 := by
 refine skeys_eq h.hu ?_ fun x=>?_
 ·rw [List.pairwise_map]
  exact List.pairwise_lt_range.imp fun h=>by omega
 ·rw [h.hk,List.mem_map]
  have hl := h.hl
  constructor
  ·rintro ⟨k,hk,rfl⟩
   rw [List.mem_range] at hk
   omega
  ·intro hx
   exact ⟨(x - 1).toNat,by rw [List.mem_range]; omega,by omega⟩
theorem KI.len (h : KI N n s) : s.m.length=s.la.toNat := by
 rw [← len_skeys,h.keys]; simp
theorem KI.skP (h : KI N n s) (hn : n≤100000) : skeysP s.m := by
 have hl := h.hl
 refine ⟨fun p hp=>?_,by rw [h.len]; omega⟩
 have := (h.hk p.1).1 (mhas_mem.2 (List.mem_map.2 ⟨p,hp,rfl⟩))
 unfold inI64; omega
theorem KI.openP (h : KI N n s) (hn : n≤100000) (c : Nat → Int) : kopen_P c s.cl s.ti s.la s.m s.tr := h.skP hn
theorem KI.openLen (h : KI N n s) : (openL s.m).length≤n := by
 have hl := h.hl
 have := kopE_len s.m (skeys s.m)
 rw [len_skeys,h.len] at this
 unfold openL; omega
theorem kprobed_is (h : KI N n s) (hn : n≤100000) (c : Nat → Int) (m : Nat → Int) : kprobed_P c s.cl s.ti s.la s.m s.tr m ∧
  kprobed_F c s.cl s.ti s.la s.m s.tr m=((probedK (nz (c 1)) s m).1,(probedK (nz (c 1)) s m).2.m,(probedK (nz (c 1)) s m).2.tr,(probedK (nz (c 1)) s m).2.cl) := by
 have e0 : (mget ieq s.m (m 9) (0,0,0,0,false,0,(fun _=>0),0,[],[],[],[]))=tAt s.m (m 9) := rfl
 have e1 : kopen_F c s.cl s.ti s.la s.m s.tr=openL s.m := rfl
 have hl := h.openLen
 unfold kprobed_P kprobed_F probedK
 rw [e0,e1]
 by_cases h1 : nz (c 1)=true
 ·simp only [if_pos h1]
  have hp := h.openP hn c
  have hlp : live_P m (openL s.m) := by unfold live_P; omega
  by_cases h2 : live_F m (openL s.m)=true
  ·simp only [if_pos h2]
   by_cases h3 : back_F m=true
   ·simp only [if_pos h3]
    obtain ⟨k1,k2⟩ := kabort_is h hn c (victim_F m).1 4 (l := [1]) (by simp) (by simp)
    rw [k2]
    exact ⟨⟨hp,hlp,k1,trivial⟩,rfl⟩
   ·simp only [if_neg h3]
    refine ⟨⟨hp,hlp,ite_intro (fun _=>trivial) fun _=>ite_intro (fun _=>trivial) fun _=>trivial⟩,?_⟩
    split
    ·rfl
    ·split <;> rfl
  ·simp only [if_neg h2]
   exact ⟨⟨hp,hlp,trivial⟩,trivial⟩
 ·simp only [if_neg h1]
  exact ⟨trivial,trivial⟩
theorem kwounded_is (h : KI N n s) (hn : n≤100000) (c : Nat → Int) (m : Nat → Int) : kwounded_P c s.cl s.ti s.la s.m s.tr m ∧
  kwounded_F c s.cl s.ti s.la s.m s.tr m=((woundK (nz (c 1)) s m).1,(woundK (nz (c 1)) s m).2.m,(woundK (nz (c 1)) s m).2.tr,(woundK (nz (c 1)) s m).2.cl) := by
 have e0 : (mget ieq s.m (m 9) (0,0,0,0,false,0,(fun _=>0),0,[],[],[],[]))=tAt s.m (m 9) := rfl
 unfold kwounded_P kwounded_F woundK
 rw [e0]
 by_cases h1 : (nz (c 1) || ((!(decide ((tAt s.m (m 9)).2.1=1))) && (!(decide ((tAt s.m (m 9)).2.1=2)))))=true
 ·simp only [if_pos h1]; exact ⟨trivial,trivial⟩
 ·simp only [if_neg h1]
  obtain ⟨k1,k2⟩ := kabort_is h hn c (m 3) 3 (l := [1]) (by simp) (by simp)
  rw [k2]
  exact ⟨⟨k1,trivial⟩,rfl⟩
theorem setK_len (h : KI N n s) (t : TT) : (setK s t).tr.length≤2 * n + 1 := by
 have hr := h.hr
 have he := evS_len t
 unfold setK
 split
 ·show s.tr.length≤_; omega
 ·show (s.tr++evS t).length≤_; rw [List.length_append]; omega
theorem khandle_is (h : KI N n s) (hn : n≤100000) (c : Nat → Int) (m : Nat → Int) : khandle_P c s.cl s.ti s.la s.m s.tr m ∧
  khandle_F c s.cl s.ti s.la s.m s.tr m=((handleK (c 0) (nz (c 1)) s m).1,(handleK (c 0) (nz (c 1)) s m).2.1,(handleK (c 0) (nz (c 1)) s m).2.2.m,(handleK (c 0) (nz (c 1)) s m).2.2.tr,(handleK (c 0) (nz (c 1)) s m).2.2.cl) := by
 have e0 : (mget ieq s.m (m 3) (0,0,0,0,false,0,(fun _=>0),0,[],[],[],[]))=tAt s.m (m 3) := rfl
 unfold khandle_P khandle_F handleK
 rw [e0]
 by_cases h1 : okB m=true
 ·rw [if_pos h1,if_pos ((msgOk_0 m).2 h1),if_pos ((msgOk_0 m).2 h1)]
  by_cases h2 : ((!(decide (m 2=0))) || (decide (c 0 < m 1)))=true
  ·simp only [if_pos h2]; exact ⟨trivial,trivial⟩
  ·simp only [if_neg h2]
   unfold comesK
   by_cases k11 : m 0=11
   ·simp only [if_pos k11]
    obtain ⟨p1,p2⟩ := kprobed_is h hn c m
    rw [p2]
    exact ⟨⟨p1,trivial⟩,rfl⟩
   ·simp only [if_neg k11]
    by_cases hm : mhas ieq s.m (m 3)=true
    ·simp only [if_pos hm]
     have hk := (h.hk _).1 hm
     have hT := (h.hT _ hk.1 hk.2).1
     have ans := tanswered_is hT (by omega) m
     have e1 : (ansC (tAt s.m (m 3)).1 (tAt s.m (m 3)).2.1 (tAt s.m (m 3)).2.2.1 (tAt s.m (m 3)).2.2.2.1 (tAt s.m (m 3)).2.2.2.2.1 (tAt s.m (m 3)).2.2.2.2.2.1 (tAt s.m (m 3)).2.2.2.2.2.2.1 (tAt s.m (m 3)).2.2.2.2.2.2.2.1 (tAt s.m (m 3)).2.2.2.2.2.2.2.2.1 (tAt s.m (m 3)).2.2.2.2.2.2.2.2.2.1 (tAt s.m (m 3)).2.2.2.2.2.2.2.2.2.2.1 (tAt s.m (m 3)).2.2.2.2.2.2.2.2.2.2.2) m=ansT (tAt s.m (m 3)) m := rfl
     rw [e1] at ans
     have hsl := setK_len h (ansT (tAt s.m (m 3)) m).1
     obtain ⟨k1,k2⟩ := kset_is0 h hn c (ansT (tAt s.m (m 3)) m).1
     by_cases k2' : m 0=2
     ·simp only [if_pos k2']
      unfold ansK evG putE
      rw [ans.2,if_pos k2']
      by_cases hz : (ansT (tAt s.m (m 3)) m).2=0
      ·simp only [if_pos hz]
       rw [k2]
       exact ⟨⟨ans.1,k1,by dsimp only; omega,trivial⟩,rfl⟩
      ·simp only [if_neg hz]
       exact ⟨⟨ans.1,trivial⟩,trivial⟩
     ·simp only [if_neg k2']
      by_cases k3 : m 0=3
      ·simp only [if_pos k3]
       unfold ansK evG putE
       rw [ans.2,if_neg k2']
       by_cases hz : (ansT (tAt s.m (m 3)) m).2=0
       ·simp only [if_pos hz]
        rw [k2]
        exact ⟨⟨ans.1,k1,by dsimp only; omega,trivial⟩,rfl⟩
       ·simp only [if_neg hz]
        exact ⟨⟨ans.1,trivial⟩,trivial⟩
      ·simp only [if_neg k3]
       by_cases k5 : m 0=5
       ·simp only [if_pos k5]
        have vt := tvote_is hT (by omega) m
        have e1 : (voteC (tAt s.m (m 3)).1 (tAt s.m (m 3)).2.1 (tAt s.m (m 3)).2.2.1 (tAt s.m (m 3)).2.2.2.1 (tAt s.m (m 3)).2.2.2.2.1 (tAt s.m (m 3)).2.2.2.2.2.1 (tAt s.m (m 3)).2.2.2.2.2.2.1 (tAt s.m (m 3)).2.2.2.2.2.2.2.1 (tAt s.m (m 3)).2.2.2.2.2.2.2.2.1 (tAt s.m (m 3)).2.2.2.2.2.2.2.2.2.1 (tAt s.m (m 3)).2.2.2.2.2.2.2.2.2.2.1 (tAt s.m (m 3)).2.2.2.2.2.2.2.2.2.2.2) m=voteT (tAt s.m (m 3)) m := rfl
        rw [e1] at vt
        unfold voteK
        rw [vt.2]
        by_cases hz : (voteT (tAt s.m (m 3)) m).2.2=0
        ·simp only [if_pos hz]
         obtain ⟨k1,k2⟩ := kset_is0 h hn c (voteT (tAt s.m (m 3)) m).1
         rw [k2]
         exact ⟨⟨vt.1,k1,trivial⟩,rfl⟩
        ·simp only [if_neg hz]
         exact ⟨⟨vt.1,trivial⟩,trivial⟩
       ·simp only [if_neg k5]
        by_cases k7 : m 0=7
        ·simp only [if_pos k7]
         have at_ := tack_is hT (by omega) m
         have e1 : (ackC (tAt s.m (m 3)).1 (tAt s.m (m 3)).2.1 (tAt s.m (m 3)).2.2.1 (tAt s.m (m 3)).2.2.2.1 (tAt s.m (m 3)).2.2.2.2.1 (tAt s.m (m 3)).2.2.2.2.2.1 (tAt s.m (m 3)).2.2.2.2.2.2.1 (tAt s.m (m 3)).2.2.2.2.2.2.2.1 (tAt s.m (m 3)).2.2.2.2.2.2.2.2.1 (tAt s.m (m 3)).2.2.2.2.2.2.2.2.2.1 (tAt s.m (m 3)).2.2.2.2.2.2.2.2.2.2.1 (tAt s.m (m 3)).2.2.2.2.2.2.2.2.2.2.2) m=ackT (tAt s.m (m 3)) m := rfl
         rw [e1] at at_
         unfold ackK
         rw [at_.2]
         by_cases hz : (ackT (tAt s.m (m 3)) m).2=0
         ·simp only [if_pos hz]
          obtain ⟨k1,k2⟩ := kset_is0 h hn c (ackT (tAt s.m (m 3)) m).1
          rw [k2]
          exact ⟨⟨at_.1,k1,trivial⟩,rfl⟩
         ·simp only [if_neg hz]
          exact ⟨⟨at_.1,trivial⟩,trivial⟩
        ·simp only [if_neg k7]
         by_cases k9 : m 0=9
         ·simp only [if_pos k9]
          obtain ⟨k1,k2⟩ := kabort_is h hn c (m 3) 5 (l := [1,2]) (by simp) (by simp)
          rw [k2]
          exact ⟨⟨k1,trivial⟩,rfl⟩
         ·simp only [if_neg k9]
          by_cases k10 : m 0=10
          ·simp only [if_pos k10]
           obtain ⟨w1,w2⟩ := kwounded_is h hn c m
           rw [w2]
           exact ⟨⟨w1,trivial⟩,rfl⟩
          ·simp only [if_neg k10]
           exact ⟨trivial,trivial⟩
    ·simp only [if_neg hm]
     exact ⟨trivial,trivial⟩
 ·have h0 : msgOk_F m=5 := by rw [msgOk_eq,if_neg h1]
  rw [if_neg h1,h0]
  exact ⟨by rw [if_neg (by decide)]; trivial,rfl⟩
end
end Go.E
