/- Part 5 of the proof. -/
import Derived.Test.YtljklmlodfbdnaaGreatJ4
import Derived.Test.YtljklmlodfbdnaaGreatJ3
import Derived.Test.YtljklmlodfbdnaaGreatJ2
import Derived.Test.YtljklmlodfbdnaaGreatRows
import Derived.WalkKit
import Derived.LaidEql
import Derived.Stop.Asserts
import Derived.RowKitTokens
import Derived.Lib.Hide
set_option maxHeartbeats 1000000
set_option maxRecDepth 100000
set_option linter.unusedVariables false
set_option linter.unusedSimpArgs false
set_option linter.unusedSectionVars false
set_option linter.unnecessarySimpa false
namespace Go.E
open Go
theorem bBI (b : Bool) : Value.bool b=Value.bool (nz (bI b)) := by rw [nz_bI]
section
variable {N : Int} {n : Nat} {s : KS}
theorem putE_KI (h : KI N n s) (e : Nat → Int) : KI N (n + 1) (putE s e) := h.ext e
theorem probedK_KI (h : KI N n s) (pr : Bool) (m : Nat → Int) : KI N (n + 1) (probedK pr s m).2 := by
 have h' := h.mono (Nat.le_succ n)
 unfold probedK
 by_cases h1 : pr=true
 ·rw [if_pos h1]
  by_cases h2 : live_F m (openL s.m)=true
  ·rw [if_pos h2]
   by_cases h3 : back_F m=true
   ·rw [if_pos h3]; exact abortK_KI h _ _ (by simp)
   ·rw [if_neg h3]
    split
    ·exact h'
    ·split <;> exact h'
  ·rw [if_neg h2]; exact h'
 ·rw [if_neg h1]; exact h'
theorem woundK_KI (h : KI N n s) (pr : Bool) (m : Nat → Int) : KI N (n + 1) (woundK pr s m).2 := by
 unfold woundK
 split
 ·exact h.mono (Nat.le_succ n)
 ·exact abortK_KI h _ _ (by simp)
theorem comesK_KI (h : KI N n s) (pr : Bool) (m : Nat → Int) : KI N (n + 2) (comesK pr s m).2 := by
 have h' := h.mono (show n≤n + 2 by omega)
 unfold comesK
 by_cases k11 : m 0=11
 ·rw [if_pos k11]; exact (probedK_KI h pr m).mono (by omega)
 ·rw [if_neg k11]
  by_cases hm : mhas ieq s.m (m 3)=true
  ·rw [if_pos hm]
   have hk := (h.hk _).1 hm
   obtain ⟨hT,hx⟩ := h.hT _ hk.1 hk.2
   have ansL : KI N (n + 2) (ansK s m).2 := by
    unfold ansK
    by_cases hz : (ansT (tAt s.m (m 3)) m).2=0
    ·rw [if_pos hz]
     refine putE_KI (h.put (ansC_TI hT m) ?_ ?_) _
     ·show 1≤(ansT (tAt s.m (m 3)) m).1.1; rw [ans_tx,hx]; exact hk.1
     ·show (ansT (tAt s.m (m 3)) m).1.1≤s.la; rw [ans_tx,hx]; exact hk.2
    ·rw [if_neg hz]; exact h'
   have voteL : KI N (n + 2) (voteK s m).2 := by
    unfold voteK
    by_cases hz : (voteT (tAt s.m (m 3)) m).2.2=0
    ·rw [if_pos hz]
     refine (h.put (voteC_TI hT m) ?_ ?_).mono (by omega)
     ·show 1≤(voteT (tAt s.m (m 3)) m).1.1; rw [vote_tx,hx]; exact hk.1
     ·show (voteT (tAt s.m (m 3)) m).1.1≤s.la; rw [vote_tx,hx]; exact hk.2
    ·rw [if_neg hz]; exact h'
   have ackL : KI N (n + 2) (ackK s m).2 := by
    unfold ackK
    by_cases hz : (ackT (tAt s.m (m 3)) m).2=0
    ·rw [if_pos hz]
     refine (h.put (ackC_TI hT m) ?_ ?_).mono (by omega)
     ·show 1≤(ackT (tAt s.m (m 3)) m).1.1; rw [ack_tx,hx]; exact hk.1
     ·show (ackT (tAt s.m (m 3)) m).1.1≤s.la; rw [ack_tx,hx]; exact hk.2
    ·rw [if_neg hz]; exact h'
   split
   ·exact ansL
   ·split
    ·exact ansL
    ·split
     ·exact voteL
     ·split
      ·exact ackL
      ·split
       ·exact (abortK_KI h _ _ (by simp)).mono (by omega)
       ·split
        ·exact (woundK_KI h pr m).mono (by omega)
        ·exact h'
  ·rw [if_neg hm]; exact h'
theorem handleK_KI (h : KI N n s) (sh : Int) (pr : Bool) (m : Nat → Int) : KI N (n + 2) (handleK sh pr s m).2.2 := by
 unfold handleK
 split
 ·split
  ·exact h.mono (by omega)
  ·exact comesK_KI h pr m
 ·exact h.mono (by omega)
end
def lostF (l : List Int) (p : LM × KS) : LM × KS := l.foldl (fun p tx=>(p.1++(abortK p.2 tx 5 [1]).1,(abortK p.2 tx 5 [1]).2.2)) p
def againT (t : TT) (b : Bool) : LM := againC t.1 t.2.1 t.2.2.2.1 t.2.2.2.2.1 t.2.2.2.2.2.1 t.2.2.2.2.2.2.1 t.2.2.2.2.2.2.2.1 t.2.2.2.2.2.2.2.2.1 t.2.2.2.2.2.2.2.2.2.1 t.2.2.2.2.2.2.2.2.2.2.1 b
def againK (s : KS) (k : Int) : LM := againT (tAt s.m k) (calive_F s.cl (cofI s.cl k))
def tick1 (c : Nat → Int) (s : KS) : LM × KS := lostF (clost_F s.cl (s.ti + 1) (c 2)) ([],{ s with ti := s.ti + 1 })
def tickK (c : Nat → Int) (s : KS) : LM × KS :=
 if (s.ti + 1).tmod (c 3)=0 then ((tick1 c s).1++(skeys (tick1 c s).2.m).flatMap (againK (tick1 c s).2),(tick1 c s).2) else tick1 c s
section
variable {N : Int} {n : Nat} {s : KS}
theorem abortK_same (s : KS) (tx re : Int) (l : List Int) : (abortK s tx re l).2.2.ti=s.ti∧(abortK s tx re l).2.2.la=s.la := by
 unfold abortK doneK
 split
 ·split
  ·exact setK_ti _ _
  ·exact ⟨rfl,rfl⟩
 ·exact ⟨rfl,rfl⟩
theorem abortK_len (h : KI N n s) (tx re : Int) {l : List Int} (hl : ∀ x ∈ l,1≤x) : (abortK s tx re l).1.length≤64 := by
 unfold abortK
 by_cases hm : (tAt s.m tx).2.1 ∈ l
 ·rw [if_pos hm]
  have hk : 1≤tx∧tx≤s.la := by
   rcases Classical.em (1≤tx∧tx≤s.la) with hk | hk
   ·exact hk
   ·rw [h.at0 hk] at hm
    have := hl _ hm
    exact absurd (show (1 : Int)≤0 from this) (by decide)
  have hT := (h.hT _ hk.1 hk.2).1
  have := TI.lto hT
  have h2 : (abortT (tAt s.m tx) re).2.1.length≤64 := by
   unfold abortT abortC
   split
   ·split
    ·exact Nat.zero_le _
    ·rw [List.length_map]; exact this
   ·exact Nat.zero_le _
  unfold doneK
  split
  ·exact h2
  ·exact Nat.zero_le _
 ·rw [if_neg hm]; exact Nat.zero_le _
theorem lostF_all (h : KI N n s) (l : List Int) (out : LM) : KI N (n + l.length) (lostF l (out,s)).2∧(lostF l (out,s)).1.length≤out.length + 64 * l.length∧(lostF l (out,s)).2.ti=s.ti∧(lostF l (out,s)).2.la=s.la := by
 induction l generalizing n s out with
 | nil=>exact ⟨h,by simp [lostF],rfl,rfl⟩
 | cons a l ih =>
  have h1 := abortK_KI h a 5 (l := [1]) (by simp)
  have h2 := abortK_len h a 5 (l := [1]) (by simp)
  have h3 := abortK_same s a 5 [1]
  obtain ⟨i1,i2,i3,i4⟩ := ih h1 (out++(abortK s a 5 [1]).1)
  have e : lostF (a::l) (out,s)=lostF l (out++(abortK s a 5 [1]).1,(abortK s a 5 [1]).2.2) := rfl
  rw [e,List.length_cons]
  rw [List.length_append] at i2
  exact ⟨i1.mono (by omega),by omega,i3.trans h3.1,i4.trans h3.2⟩
theorem lostF_snoc (l : List Int) (a : Int) (p : LM × KS) : lostF (l++[a]) p=((lostF l p).1++(abortK (lostF l p).2 a 5 [1]).1,(abortK (lostF l p).2 a 5 [1]).2.2) := by
 unfold lostF
 rw [List.foldl_append]
 rfl
theorem clost_len (c : Nat → Int) (now span : Int) : (clost_F c now span).length≤9 := by
 unfold clost_F
 split
 ·exact Nat.zero_le _
 ·rw [len_isort]; exact lostL_len _ _ _ _
theorem KI.later (h : KI N n s) : KI N (n + 1) { s with ti := s.ti + 1 } :=
 let h' := h.mono (Nat.le_succ n)
 { h' with
  hc := h.hc
  ht := by have := h.ht; show 0≤s.ti + 1∧s.ti + 1≤_; omega }
theorem tick1_KI (h : KI N n s) (c : Nat → Int) : KI N (n + 10) (tick1 c s).2∧(tick1 c s).1.length≤576∧(tick1 c s).2.ti=s.ti + 1∧(tick1 c s).2.la=s.la := by
 have hl := clost_len s.cl (s.ti + 1) (c 2)
 obtain ⟨h1,h2,h3,h4⟩ := lostF_all h.later (clost_F s.cl (s.ti + 1) (c 2)) []
 exact ⟨h1.mono (by omega),by rw [List.length_nil] at h2; show (lostF _ _).1.length≤_; omega,h3,h4⟩
theorem tickK_2 (c : Nat → Int) (s : KS) : (tickK c s).2=(tick1 c s).2 := by
 unfold tickK
 split <;> rfl
theorem tickK_KI (h : KI N n s) (c : Nat → Int) : KI N (n + 10) (tickK c s).2 := by
 rw [tickK_2]; exact (tick1_KI h c).1
theorem againK_len (h : KI N n s) {k : Int} (h1 : 1≤k∧k≤s.la) : (againK s k).length≤65 := by
 have hT := (h.hT k h1.1 h1.2).1
 have hl := TI.lto hT
 have l1 := leftL_len (tAt s.m k).2.2.2.2.2.2.2.2.1 (tAt s.m k).2.2.2.2.2.2.2.2.2.1
 have l2 := leftL_len (tAt s.m k).2.2.2.2.2.2.2.2.1 (tAt s.m k).2.2.2.2.2.2.2.2.2.2.1
 unfold againK againT againC
 split
 ·rw [List.length_append]
  split <;> split <;> simp <;> omega
 ·split
  ·rw [List.length_map]; omega
  ·split
   ·rw [List.length_map]; omega
   ·split
    ·rw [List.length_map]; omega
    ·exact Nat.zero_le _
end
def ktick_F (c cl : Nat → Int) (ti la : Int) (m : TM) (tr : LM) : LM × Int × TM × LM × NI :=
 ((tickK c ⟨cl,ti,la,m,tr⟩).1,ti + 1,(tickK c ⟨cl,ti,la,m,tr⟩).2.m,(tickK c ⟨cl,ti,la,m,tr⟩).2.tr,(tickK c ⟨cl,ti,la,m,tr⟩).2.cl)
def ktick_P (c cl : Nat → Int) (ti la : Int) (m : TM) (tr : LM) : Prop := (∃ N n,KI N n ⟨cl,ti,la,m,tr⟩∧n≤90000)∧c 3 ≠ 0
theorem ktick_ok (c cl : Nat → Int) (ti la : Int) (m : TM) (tr : LM) (hP : ktick_P c cl ti la m tr) : ktick_S c cl ti la m tr (ktick_F c cl ti la m tr) := by
 obtain ⟨⟨N,n,h,hn⟩,h3⟩ := hP
 generalize hs : (⟨cl,ti,la,m,tr⟩ : KS)=s at h
 obtain rfl : cl=s.cl := by rw [← hs]
 obtain rfl : ti=s.ti := by rw [← hs]
 obtain rfl : la=s.la := by rw [← hs]
 obtain rfl : m=s.m := by rw [← hs]
 obtain rfl : tr=s.tr := by rw [← hs]
 clear hs
 have ht := h.ht
 have hll := clost_len s.cl (s.ti + 1) (c 2)
 have hL := h.later
 refine ⟨by unfold inI64; omega,h.hc.si,((tick1 c s).1,(tick1 c s).2.cl,(tick1 c s).2.m,(tick1 c s).2.tr),?_,?_⟩
 ·generalize hl : clost_F s.cl (s.ti + 1) (c 2)=l at hll
  have et : tick1 c s=lostF l ([],{ s with ti := s.ti + 1 }) := by unfold tick1; rw [hl]
  rw [et]
  have hf : ∀ k : Nat,k < l.length → ktick_l1 c s.cl s.ti s.la (lostF (l.take k) ([],{ s with ti := s.ti + 1 })).1 (k : Int) (lostF (l.take k) ([],{ s with ti := s.ti + 1 })).2.cl (lostF (l.take k) ([],{ s with ti := s.ti + 1 })).2.m (lostF (l.take k) ([],{ s with ti := s.ti + 1 })).2.tr
    (.inl ((lostF (l.take (k + 1)) ([],{ s with ti := s.ti + 1 })).1,((k + 1 : Nat) : Int),(lostF (l.take (k + 1)) ([],{ s with ti := s.ti + 1 })).2.cl,(lostF (l.take (k + 1)) ([],{ s with ti := s.ti + 1 })).2.m,(lostF (l.take (k + 1)) ([],{ s with ti := s.ti + 1 })).2.tr)) := by
   intro k hk
   obtain ⟨i1,i2,i3,i4⟩ := lostF_all hL (l.take k) []
   have htl : (l.take k).length=k := by rw [List.length_take]; omega
   rw [htl] at i1 i2
   rw [List.length_nil] at i2
   have e : ((k + 1 : Nat) : Int)=(k : Int) + 1 := by omega
   rw [take_step hk,lostF_snoc,e]
   generalize lostF (l.take k) ([],{ s with ti := s.ti + 1 })=p at i1 i2 i3 i4 ⊢
   obtain ⟨k1,k2⟩ := kabort_is i1 (by omega) c l[k]! 5 (l := [1]) (by simp) (by simp)
   have a1 := abortK_len i1 l[k]! 5 (l := [1]) (by simp)
   have i3' : p.2.ti=s.ti + 1 := i3
   have i4' : p.2.la=s.la := i4
   rw [i3',i4'] at k1 k2
   unfold ktick_l1
   rw [hl,if_pos (by omega),Int.toNat_natCast,k2]
   exact ⟨⟨by omega,by omega⟩,k1,by dsimp only; omega,by unfold inI64; omega,rfl⟩
  have := Wh.fold (f := fun (s_ : LM × Int × NI × TM × LM) o=>ktick_l1 c s.cl s.ti s.la s_.1 s_.2.1 s_.2.2.1 s_.2.2.2.1 s_.2.2.2.2 o) l.length
   (fun k=>((lostF (l.take k) ([],{ s with ti := s.ti + 1 })).1,(k : Int),(lostF (l.take k) ([],{ s with ti := s.ti + 1 })).2.cl,(lostF (l.take k) ([],{ s with ti := s.ti + 1 })).2.m,(lostF (l.take k) ([],{ s with ti := s.ti + 1 })).2.tr))
   ((lostF l ([],{ s with ti := s.ti + 1 })).1,(lostF l ([],{ s with ti := s.ti + 1 })).2.cl,(lostF l ([],{ s with ti := s.ti + 1 })).2.m,(lostF l ([],{ s with ti := s.ti + 1 })).2.tr) hf (by
   show ktick_l1 c s.cl s.ti s.la _ (l.length : Int) _ _ _ _
   unfold ktick_l1
   rw [hl,if_neg (by omega),List.take_length])
  exact this
 ·obtain ⟨i1,i2,i3,i4⟩ := tick1_KI h c
  unfold ktick_F ktick_k1a tickK
  refine ⟨h3,?_⟩
  dsimp only
  by_cases hz : (s.ti + 1).tmod (c 3)=0
  ·rw [if_pos hz]
   simp only [if_pos hz]
   refine ⟨⟨i1.skP (by omega),trivial⟩,(tick1 c s).1++(skeys (tick1 c s).2.m).flatMap (againK (tick1 c s).2),?_,rfl⟩
   generalize tick1 c s=p at i1 i2 i3 i4 ⊢
   have hlen : (skeys p.2.m).length≤100000 := by have := i1.hl; rw [len_skeys,i1.len]; omega
   have hlt : ∀ k : Nat,k≤(skeys p.2.m).length → (((skeys p.2.m).take k).flatMap (againK p.2)).length≤65 * k := by
    intro k
    induction k with
    | zero=>intro _; simp
    | succ k ih =>
     intro hk
     rw [take_step (by omega),List.flatMap_append,List.length_append]
     have e2 : [(skeys p.2.m)[k]!].flatMap (againK p.2)=againK p.2 (skeys p.2.m)[k]! := by simp
     have hmem : (skeys p.2.m)[k]! ∈ skeys p.2.m := by rw [getElem!_pos (skeys p.2.m) k (by omega)]; exact List.getElem_mem _
     have := againK_len i1 ((i1.hk _).1 (mem_skeys.1 hmem))
     rw [e2]
     have := ih (by omega)
     omega
   have hf : ∀ k : Nat,k < (skeys p.2.m).length → ktick_l2 c s.ti s.la p.2.cl p.2.m p.2.tr (p.1++((skeys p.2.m).take k).flatMap (againK p.2)) (k : Int) (.inl (p.1++((skeys p.2.m).take (k + 1)).flatMap (againK p.2),((k + 1 : Nat) : Int))) := by
    intro k hk
    have e : ((k + 1 : Nat) : Int)=(k : Int) + 1 := by omega
    have hmem : (skeys p.2.m)[k]! ∈ skeys p.2.m := by rw [getElem!_pos (skeys p.2.m) k hk]; exact List.getElem_mem _
    have hk2 := (i1.hk _).1 (mem_skeys.1 hmem)
    have hT := (i1.hT _ hk2.1 hk2.2).1
    have hl1 := hlt k (by omega)
    have hl2 := againK_len i1 hk2
    rw [take_step hk,List.flatMap_append,e]
    have e2 : [(skeys p.2.m)[k]!].flatMap (againK p.2)=againK p.2 (skeys p.2.m)[k]! := by simp
    rw [e2]
    unfold ktick_l2 call_F
    rw [if_pos (by omega),Int.toNat_natCast]
    generalize (skeys p.2.m)[k]! = x at hmem hk2 hT hl2 ⊢
    have ec := (cof_eq p.2.cl x).1
    obtain ⟨g1,g2⟩ := tagain_is hT (calive_F p.2.cl (cofI p.2.cl x))
    rw [ec]
    have e0 : (mget ieq p.2.m x (0,0,0,0,false,0,(fun _=>0),0,[],[],[],[]))=tAt p.2.m x := rfl
    refine ⟨⟨by omega,by omega⟩,_,rfl,?_,?_,?_,by unfold inI64; omega,?_⟩
    ·have hN := i1.hc.n1
     unfold calive_P
     rw [i1.hc.c0]
     refine ite_intro (fun _=>trivial) fun hx=>?_
     simp only [Bool.or_eq_true,decide_eq_true_eq] at hx
     exact ⟨⟨by omega,by omega⟩,trivial⟩
    ·rw [e0]; exact g1
    ·rw [e0,g2]
     have : (againK p.2 x).length=(againC (tAt p.2.m x).1 (tAt p.2.m x).2.1 (tAt p.2.m x).2.2.2.1 (tAt p.2.m x).2.2.2.2.1 (tAt p.2.m x).2.2.2.2.2.1 (tAt p.2.m x).2.2.2.2.2.2.1 (tAt p.2.m x).2.2.2.2.2.2.2.1 (tAt p.2.m x).2.2.2.2.2.2.2.2.1 (tAt p.2.m x).2.2.2.2.2.2.2.2.2.1 (tAt p.2.m x).2.2.2.2.2.2.2.2.2.2.1 (calive_F p.2.cl (cofI p.2.cl x))).length := rfl
     rw [← this,List.length_append]
     omega
    ·rw [e0,g2,List.append_assoc]
     rfl
   have := Wh.fold (f := fun (s_ : LM × Int) o=>ktick_l2 c s.ti s.la p.2.cl p.2.m p.2.tr s_.1 s_.2 o) (skeys p.2.m).length (fun k=>(p.1++((skeys p.2.m).take k).flatMap (againK p.2),(k : Int))) (p.1++(skeys p.2.m).flatMap (againK p.2)) hf (by
    show ktick_l2 c s.ti s.la p.2.cl p.2.m p.2.tr _ ((skeys p.2.m).length : Int) _
    unfold ktick_l2 call_F
    rw [if_neg (by omega),List.take_length])
   simp only [List.take_zero,List.flatMap_nil,List.append_nil] at this
   exact this
  ·rw [if_neg hz]
   simp only [if_neg hz]
end Go.E
namespace Go.E
open Go
def alive18_F : Bool := true
def startK (N : Int) : KS := ⟨updI (fun _=>0) 0 N,0,0,[],[]⟩
theorem alive18_ok : alive18_S alive18_F := by
 unfold alive18_S
 rw [if_pos (by decide),if_pos (by decide),if_pos (by decide),if_pos (by decide),if_pos (by decide),if_pos (by decide)]
 generalize hcf : (updI (updI (updI (updI (updI (updI (updI (fun _=>0) 0 2) 1 (bI false)) 2 5) 3 3) 4 40) 5 6) 6 1000 : Nat → Int)=cf
 have hc0 : cf 0=2 := by rw [← hcf]; rfl
 have i0 : KI 2 0 (startK 2) := KI.start (by omega)
 obtain ⟨p1,q1⟩ := kbegin_is i0 (by omega) cf 1
 change kbegin_P cf (updI (fun _=>0) 0 2) 0 0 [] [] 1 at p1
 change kbegin_F cf (updI (fun _=>0) 0 2) 0 0 [] [] 1=_ at q1
 have i1 := beginK_KI i0 (by omega) 1
 have e1 : (beginK 2 (startK 2) 1).1=1∧(beginK 2 (startK 2) 1).2.1=0∧(beginK 2 (startK 2) 1).2.2.ti=0 := ⟨rfl,rfl,rfl⟩
 generalize hs1 : (beginK 2 (startK 2) 1).2.2=s1 at i1 q1 e1
 rw [q1]
 dsimp only
 rw [e1.1,e1.2.1,if_pos rfl,if_pos rfl]
 obtain ⟨p2,q2⟩ := klock_is i1 (by omega) cf (by omega) 1 (updI (fun _=>0) 0 3) 4
 rw [e1.2.2] at p2
 rw [e1.2.2,hc0] at q2
 have i2 := lockK_KI i1 2 1 (updI (fun _=>0) 0 3) 4
 have e2 : (lockK 2 2 s1 1 (updI (fun _=>0) 0 3) 4).2.1=0∧(lockK 2 2 s1 1 (updI (fun _=>0) 0 3) 4).2.2.ti=0∧(lockK 2 2 s1 1 (updI (fun _=>0) 0 3) 4).2.2.la=s1.la := by
  rw [← hs1]; exact ⟨by decide +kernel,by decide +kernel,by decide +kernel⟩
 have m2 : msgs_F (lockK 2 2 s1 1 (updI (fun _=>0) 0 3) 4).1 ([(updI (updRI (updI (updI (updI (updI (fun _=>0) 0 1) 2 1) 3 1) 4 1) 5 2 (updI (fun _=>0) 0 3)) 7 4)])=true∧(lockK 2 2 s1 1 (updI (fun _=>0) 0 3) 4).1.length=1 := by
  rw [← hs1]; exact ⟨by decide +kernel,by decide +kernel⟩
 have c2 : (commitK 2 (lockK 2 2 s1 1 (updI (fun _=>0) 0 3) 4).2.2 1).2.1=8 := by
  rw [← hs1]; decide +kernel
 generalize (lockK 2 2 s1 1 (updI (fun _=>0) 0 3) 4)=r2 at i2 q2 e2 m2 c2
 rw [q2]
 dsimp only
 rw [e2.1,if_pos rfl,if_pos m2.1]
 obtain ⟨p3,q3⟩ := kcommit_is i2 (by omega) cf 1
 rw [e2.2.1,e2.2.2] at p3 q3
 refine ⟨p1,p2,p3,?_,?_⟩
 ·unfold msgs_P; omega
 ·rw [q3]
  dsimp only
  rw [c2]
  rfl
end Go.E
namespace Go.E
open Go
def act18_S (o0c : NI) (za : NI) (zc : Int) (zd : Int) (zf : UM) (zb : LM) (a1 : NI) (r : LM × Int × Int × Int × Int × UM × LM × NI) : Prop :=
 if a1 0=0 then
  (klock_P o0c za zc zd zf zb (a1 1) (fun i=>a1 (2 + i)) (a1 4))∧(
  r=(((klock_F o0c za zc zd zf zb (a1 1) (fun i=>a1 (2 + i)) (a1 4)).1,0,(code_F ((klock_F o0c za zc zd zf zb (a1 1) (fun i=>a1 (2 + i)) (a1 4)).2.1)),zc,zd,(klock_F o0c za zc zd zf zb (a1 1) (fun i=>a1 (2 + i)) (a1 4)).2.2.1,(klock_F o0c za zc zd zf zb (a1 1) (fun i=>a1 (2 + i)) (a1 4)).2.2.2.1,(klock_F o0c za zc zd zf zb (a1 1) (fun i=>a1 (2 + i)) (a1 4)).2.2.2.2)))
 else
  if a1 0=1 then
   (kcommit_P o0c za zc zd zf zb (a1 1))∧(
   r=(((kcommit_F o0c za zc zd zf zb (a1 1)).1,0,(code_F ((kcommit_F o0c za zc zd zf zb (a1 1)).2.1)),zc,zd,(kcommit_F o0c za zc zd zf zb (a1 1)).2.2.1,(kcommit_F o0c za zc zd zf zb (a1 1)).2.2.2.1,(kcommit_F o0c za zc zd zf zb (a1 1)).2.2.2.2)))
  else
   if a1 0=2 then
    (kabortC_P o0c za zc zd zf zb (a1 1))∧(
    r=(((kabortC_F o0c za zc zd zf zb (a1 1)).1,0,(code_F ((kabortC_F o0c za zc zd zf zb (a1 1)).2.1)),zc,zd,(kabortC_F o0c za zc zd zf zb (a1 1)).2.2.1,(kabortC_F o0c za zc zd zf zb (a1 1)).2.2.2.1,(kabortC_F o0c za zc zd zf zb (a1 1)).2.2.2.2)))
   else
    if a1 0=3 then
     (kcrash_P o0c za zc zd zf zb (a1 1))∧(
     r=(([],0,(code_F ((kcrash_F o0c za zc zd zf zb (a1 1)).1)),zc,zd,zf,(kcrash_F o0c za zc zd zf zb (a1 1)).2.1,(kcrash_F o0c za zc zd zf zb (a1 1)).2.2)))
    else
     if a1 0=4 then
      (kbegin_P o0c za zc zd zf zb (a1 1))∧(
      r=(([],(kbegin_F o0c za zc zd zf zb (a1 1)).1,(code_F ((kbegin_F o0c za zc zd zf zb (a1 1)).2.1)),zc,(kbegin_F o0c za zc zd zf zb (a1 1)).2.2.1,(kbegin_F o0c za zc zd zf zb (a1 1)).2.2.2.1,(kbegin_F o0c za zc zd zf zb (a1 1)).2.2.2.2.1,(kbegin_F o0c za zc zd zf zb (a1 1)).2.2.2.2.2)))
     else
      if a1 0=5 then
       (khandle_P o0c za zc zd zf zb (fun i=>a1 (5 + i)))∧(
       r=(((khandle_F o0c za zc zd zf zb (fun i=>a1 (5 + i))).1,0,(code_F ((khandle_F o0c za zc zd zf zb (fun i=>a1 (5 + i))).2.1)),zc,zd,(khandle_F o0c za zc zd zf zb (fun i=>a1 (5 + i))).2.2.1,(khandle_F o0c za zc zd zf zb (fun i=>a1 (5 + i))).2.2.2.1,(khandle_F o0c za zc zd zf zb (fun i=>a1 (5 + i))).2.2.2.2)))
      else
       if a1 0=6 then
        (ktick_P o0c za zc zd zf zb)∧(
        r=(((ktick_F o0c za zc zd zf zb).1,0,(code_F 0),(ktick_F o0c za zc zd zf zb).2.1,zd,(ktick_F o0c za zc zd zf zb).2.2.1,(ktick_F o0c za zc zd zf zb).2.2.2.1,(ktick_F o0c za zc zd zf zb).2.2.2.2)))
       else
        r=(([],0,(code_F 0),zc,zd,zf,zb,za))
def act18_F (o0c : NI) (za : NI) (zc : Int) (zd : Int) (zf : UM) (zb : LM) (a1 : NI) : LM × Int × Int × Int × Int × UM × LM × NI :=
 if a1 0=0 then
  ((klock_F o0c za zc zd zf zb (a1 1) (fun i=>a1 (2 + i)) (a1 4)).1,0,(code_F ((klock_F o0c za zc zd zf zb (a1 1) (fun i=>a1 (2 + i)) (a1 4)).2.1)),zc,zd,(klock_F o0c za zc zd zf zb (a1 1) (fun i=>a1 (2 + i)) (a1 4)).2.2.1,(klock_F o0c za zc zd zf zb (a1 1) (fun i=>a1 (2 + i)) (a1 4)).2.2.2.1,(klock_F o0c za zc zd zf zb (a1 1) (fun i=>a1 (2 + i)) (a1 4)).2.2.2.2)
 else
  if a1 0=1 then
   ((kcommit_F o0c za zc zd zf zb (a1 1)).1,0,(code_F ((kcommit_F o0c za zc zd zf zb (a1 1)).2.1)),zc,zd,(kcommit_F o0c za zc zd zf zb (a1 1)).2.2.1,(kcommit_F o0c za zc zd zf zb (a1 1)).2.2.2.1,(kcommit_F o0c za zc zd zf zb (a1 1)).2.2.2.2)
  else
   if a1 0=2 then
    ((kabortC_F o0c za zc zd zf zb (a1 1)).1,0,(code_F ((kabortC_F o0c za zc zd zf zb (a1 1)).2.1)),zc,zd,(kabortC_F o0c za zc zd zf zb (a1 1)).2.2.1,(kabortC_F o0c za zc zd zf zb (a1 1)).2.2.2.1,(kabortC_F o0c za zc zd zf zb (a1 1)).2.2.2.2)
   else
    if a1 0=3 then
     ([],0,(code_F ((kcrash_F o0c za zc zd zf zb (a1 1)).1)),zc,zd,zf,(kcrash_F o0c za zc zd zf zb (a1 1)).2.1,(kcrash_F o0c za zc zd zf zb (a1 1)).2.2)
    else
     if a1 0=4 then
      ([],(kbegin_F o0c za zc zd zf zb (a1 1)).1,(code_F ((kbegin_F o0c za zc zd zf zb (a1 1)).2.1)),zc,(kbegin_F o0c za zc zd zf zb (a1 1)).2.2.1,(kbegin_F o0c za zc zd zf zb (a1 1)).2.2.2.1,(kbegin_F o0c za zc zd zf zb (a1 1)).2.2.2.2.1,(kbegin_F o0c za zc zd zf zb (a1 1)).2.2.2.2.2)
     else
      if a1 0=5 then
       ((khandle_F o0c za zc zd zf zb (fun i=>a1 (5 + i))).1,0,(code_F ((khandle_F o0c za zc zd zf zb (fun i=>a1 (5 + i))).2.1)),zc,zd,(khandle_F o0c za zc zd zf zb (fun i=>a1 (5 + i))).2.2.1,(khandle_F o0c za zc zd zf zb (fun i=>a1 (5 + i))).2.2.2.1,(khandle_F o0c za zc zd zf zb (fun i=>a1 (5 + i))).2.2.2.2)
      else
       if a1 0=6 then
        ((ktick_F o0c za zc zd zf zb).1,0,(code_F 0),(ktick_F o0c za zc zd zf zb).2.1,zd,(ktick_F o0c za zc zd zf zb).2.2.1,(ktick_F o0c za zc zd zf zb).2.2.2.1,(ktick_F o0c za zc zd zf zb).2.2.2.2)
       else
        ([],0,(code_F 0),zc,zd,zf,zb,za)
def act18_P (o0c : NI) (za : NI) (zc : Int) (zd : Int) (zf : UM) (zb : LM) (a1 : NI) : Prop :=
 if a1 0=0 then
  (klock_P o0c za zc zd zf zb (a1 1) (fun i=>a1 (2 + i)) (a1 4))∧(
  True)
 else
  if a1 0=1 then
   (kcommit_P o0c za zc zd zf zb (a1 1))∧(
   True)
  else
   if a1 0=2 then
    (kabortC_P o0c za zc zd zf zb (a1 1))∧(
    True)
   else
    if a1 0=3 then
     (kcrash_P o0c za zc zd zf zb (a1 1))∧(
     True)
    else
     if a1 0=4 then
      (kbegin_P o0c za zc zd zf zb (a1 1))∧(
      True)
     else
      if a1 0=5 then
       (khandle_P o0c za zc zd zf zb (fun i=>a1 (5 + i)))∧(
       True)
      else
       if a1 0=6 then
        (ktick_P o0c za zc zd zf zb)∧(
        True)
       else
        True
theorem act18_ok (o0c : NI) (za : NI) (zc : Int) (zd : Int) (zf : UM) (zb : LM) (a1 : NI) (hP : act18_P o0c za zc zd zf zb a1) : act18_S o0c za zc zd zf zb a1 (act18_F o0c za zc zd zf zb a1) := by
 obtain ⟨r,hr⟩ : ∃ r,r=act18_F o0c za zc zd zf zb a1 := ⟨_,rfl⟩
 rw [← hr]
 unfold act18_F at hr
 unfold act18_S
 unfold act18_P at hP
 by_cases hp110 : a1 0=0
 ·rw [if_pos hp110] at hr hP ⊢
  obtain ⟨hq0,hP⟩ := hP
  refine ⟨hq0,?_⟩
  exact hr
 ·rw [if_neg hp110] at hr hP ⊢
  by_cases hp111 : a1 0=1
  ·rw [if_pos hp111] at hr hP ⊢
   obtain ⟨hq0,hP⟩ := hP
   refine ⟨hq0,?_⟩
   exact hr
  ·rw [if_neg hp111] at hr hP ⊢
   by_cases hp112 : a1 0=2
   ·rw [if_pos hp112] at hr hP ⊢
    obtain ⟨hq0,hP⟩ := hP
    refine ⟨hq0,?_⟩
    exact hr
   ·rw [if_neg hp112] at hr hP ⊢
    by_cases hp113 : a1 0=3
    ·rw [if_pos hp113] at hr hP ⊢
     obtain ⟨hq0,hP⟩ := hP
     refine ⟨hq0,?_⟩
     exact hr
    ·rw [if_neg hp113] at hr hP ⊢
     by_cases hp114 : a1 0=4
     ·rw [if_pos hp114] at hr hP ⊢
      obtain ⟨hq0,hP⟩ := hP
      refine ⟨hq0,?_⟩
      exact hr
     ·rw [if_neg hp114] at hr hP ⊢
      by_cases hp115 : a1 0=5
      ·rw [if_pos hp115] at hr hP ⊢
       obtain ⟨hq0,hP⟩ := hP
       refine ⟨hq0,?_⟩
       exact hr
      ·rw [if_neg hp115] at hr hP ⊢
       by_cases hp116 : a1 0=6
       ·rw [if_pos hp116] at hr hP ⊢
        obtain ⟨hq0,hP⟩ := hP
        refine ⟨hq0,?_⟩
        exact hr
       ·rw [if_neg hp116] at hr hP ⊢
        exact hr
end Go.E
namespace Go.E
open Go
def ref02Ok_S (r0 : NI) (r : Bool) : Prop :=
 r=((((decide (0 < r0 0)) && (decide (r0 0 < 251))) && (decide ((-1) < r0 1))) && (decide (r0 1 < 251)))
def ref02Ok_F (r0 : NI) : Bool :=
 (((decide (0 < r0 0)) && (decide (r0 0 < 251))) && (decide ((-1) < r0 1))) && (decide (r0 1 < 251))
theorem ref02Ok_ok (r0 : NI) : ref02Ok_S r0 (ref02Ok_F r0) := by
 obtain ⟨r,hr⟩ : ∃ r,r=ref02Ok_F r0 := ⟨_,rfl⟩
 rw [← hr]
 unfold ref02Ok_F at hr
 unfold ref02Ok_S
 exact hr
def number_S (n0 : Int) (r : Bool) : Prop :=
 r=((decide (0 < n0)) && (decide (n0≤1048576)))
def number_F (n0 : Int) : Bool :=
 (decide (0 < n0)) && (decide (n0≤1048576))
theorem number_ok (n0 : Int) : number_S n0 (number_F n0) := by
 obtain ⟨r,hr⟩ : ∃ r,r=number_F n0 := ⟨_,rfl⟩
 rw [← hr]
 unfold number_F at hr
 unfold number_S
 exact hr
def ref04Ok_l2 (m0 : NI) (i8 : Int) (k9 : Int) (o : (Int) ⊕ ((Unit) ⊕ (Unit))) : Prop :=
 if k9 < i8 then
  (0≤k9∧k9 < 8)∧(
  (0≤i8∧i8 < 8)∧(
  if m0 (12 + (k9.toNat * 2))=m0 (12 + (i8.toNat * 2)) then
   o=(.inr (.inr ()))
  else
   (inI64 (k9 + 1))∧(
   o=(.inl (k9 + 1)))))
 else
  o=(.inr (.inl ()))
def ref04Ok_k2a (i8 : Int) (o : (Int) ⊕ ((Unit) ⊕ (Unit))) : Prop :=
 (inI64 (i8 + 1))∧(
 o=(.inl (i8 + 1)))
def ref04Ok_k2b (o : (Int) ⊕ ((Unit) ⊕ (Unit))) : Prop :=
 o=(.inr (.inr ()))
def ref04Ok_l1 (m0 : NI) (i8 : Int) (o : (Int) ⊕ ((Unit) ⊕ (Unit))) : Prop :=
 if i8 < 8 then
  if m0 11≤i8 then
   (0≤i8∧i8 < 8)∧(((!(decide (m0 (12 + (i8.toNat * 2))=0)))=false) → 0≤i8∧i8 < 8)∧(
   if ((!(decide (m0 (12 + (i8.toNat * 2))=0))) || (!(decide (m0 ((12 + (i8.toNat * 2)) + 1)=0))))=true then
    o=(.inr (.inr ()))
   else
    (inI64 (i8 + 1))∧(
    o=(.inl (i8 + 1))))
  else
   (0≤i8∧i8 < 8)∧(((!((number_F (m0 (12 + (i8.toNat * 2))))))=false) → 0≤i8∧i8 < 8)∧(
   if ((!((number_F (m0 (12 + (i8.toNat * 2)))))) || (!((number_F (m0 ((12 + (i8.toNat * 2)) + 1))))))=true then
    o=(.inr (.inr ()))
   else
    ∃ x : (Unit) ⊕ (Unit),Wh (fun (s : Int) (o : (Int) ⊕ ((Unit) ⊕ (Unit)))=>ref04Ok_l2 m0 i8 s o) (0 : Int) x∧(match x with | .inl _=>ref04Ok_k2a i8 o | .inr _=>ref04Ok_k2b o))
 else
  o=(.inr (.inl ()))
def ref04Ok_k1a (m0 : NI) (r : Bool) : Prop :=
 r=((eqN 28 m0 (updI (updI (updRI (updI (updI (updI (updI (fun _=>0) 0 (m0 0)) 1 (m0 1)) 2 (m0 2)) 11 (m0 11)) 12 16 (fun i=>m0 (12 + i))) 9 (m0 9)) 10 (m0 10))))
def ref04Ok_k1b (r : Bool) : Prop :=
 r=(false)
def ref04Ok_S (m0 : NI) (r : Bool) : Prop :=
 if ((decide (m0 0 < 1)) || (decide (11 < m0 0)))=true then
  r=(false)
 else
  (inI64 ((m0 0) - 1))∧(
  (0≤(m0 0) - 1∧(m0 0) - 1 < (⟨#[111,98,98,111,98,111,98,111,98,98,101]⟩ : ByteArray).size)∧(
  if ((((decide (strAt (⟨#[111,98,98,111,98,111,98,111,98,98,101]⟩ : ByteArray) ((m0 0) - 1)=111)) && (!(((decide (m0 1=0)) && (decide (1≤m0 2))) && (decide (m0 2≤64))))) || ((decide (strAt (⟨#[111,98,98,111,98,111,98,111,98,98,101]⟩ : ByteArray) ((m0 0) - 1)=98)) && (!(((decide (m0 2=0)) && (decide (1≤m0 1))) && (decide (m0 1≤64)))))) || ((!(((decide (m0 1=0)) && (decide (1≤m0 2))) && (decide (m0 2≤64)))) && (!(((decide (m0 2=0)) && (decide (1≤m0 1))) && (decide (m0 1≤64))))))=true then
   r=(false)
  else
   if m0 0=11 then
    if (((((decide (m0 11 < 1)) || (decide (8 < m0 11))) || (!((number_F (m0 9))))) || (decide (m0 10 < 0))) || (decide (1048576 < m0 10)))=true then
     r=(false)
    else
     ∃ x : (Unit) ⊕ (Unit),Wh (fun (s : Int) (o : (Int) ⊕ ((Unit) ⊕ (Unit)))=>ref04Ok_l1 m0 s o) (0 : Int) x∧(match x with | .inl _=>ref04Ok_k1a m0 r | .inr _=>ref04Ok_k1b r)
   else
    if ((number_F (m0 3)))=true then
     if m0 0≤3 then
      if ((number_F (m0 4)))=true then
       if m0 0≤2 then
        if (((!((ref02Ok_F (fun i=>m0 (5 + i))))) || (decide (m0 7 < 1))) || (decide (4 < m0 7)))=true then
         r=(false)
        else
         if m0 0=3 then
          if ((decide (m0 8 < 1)) || (decide (15 < m0 8)))=true then
           r=(false)
          else
           if ((decide (m0 0=5)) || (decide (m0 0=6)))=true then
            if ((!(decide (m0 8=0))) && (!(decide (m0 8=1))))=true then
             r=(false)
            else
             r=((eqN 28 m0 (updI (updI (updI (updRI (updI (updI (updI (updI (updI (fun _=>0) 0 (m0 0)) 1 (m0 1)) 2 (m0 2)) 3 (m0 3)) 4 (m0 4)) 5 2 (fun i=>m0 (5 + i))) 7 (m0 7)) 8 (m0 8)) 8 (m0 8))))
           else
            r=((eqN 28 m0 (updI (updI (updRI (updI (updI (updI (updI (updI (fun _=>0) 0 (m0 0)) 1 (m0 1)) 2 (m0 2)) 3 (m0 3)) 4 (m0 4)) 5 2 (fun i=>m0 (5 + i))) 7 (m0 7)) 8 (m0 8))))
         else
          if ((decide (m0 0=5)) || (decide (m0 0=6)))=true then
           if ((!(decide (m0 8=0))) && (!(decide (m0 8=1))))=true then
            r=(false)
           else
            if m0 0=10 then
             if ((!((number_F (m0 9)))) || (decide (m0 3≤m0 9)))=true then
              r=(false)
             else
              r=((eqN 28 m0 (updI (updI (updI (updRI (updI (updI (updI (updI (updI (fun _=>0) 0 (m0 0)) 1 (m0 1)) 2 (m0 2)) 3 (m0 3)) 4 (m0 4)) 5 2 (fun i=>m0 (5 + i))) 7 (m0 7)) 8 (m0 8)) 9 (m0 9))))
            else
             r=((eqN 28 m0 (updI (updI (updRI (updI (updI (updI (updI (updI (fun _=>0) 0 (m0 0)) 1 (m0 1)) 2 (m0 2)) 3 (m0 3)) 4 (m0 4)) 5 2 (fun i=>m0 (5 + i))) 7 (m0 7)) 8 (m0 8))))
          else
           if m0 0=10 then
            if ((!((number_F (m0 9)))) || (decide (m0 3≤m0 9)))=true then
             r=(false)
            else
             r=((eqN 28 m0 (updI (updI (updRI (updI (updI (updI (updI (updI (fun _=>0) 0 (m0 0)) 1 (m0 1)) 2 (m0 2)) 3 (m0 3)) 4 (m0 4)) 5 2 (fun i=>m0 (5 + i))) 7 (m0 7)) 9 (m0 9))))
           else
            r=((eqN 28 m0 (updI (updRI (updI (updI (updI (updI (updI (fun _=>0) 0 (m0 0)) 1 (m0 1)) 2 (m0 2)) 3 (m0 3)) 4 (m0 4)) 5 2 (fun i=>m0 (5 + i))) 7 (m0 7))))
       else
        if m0 0=3 then
         if ((decide (m0 8 < 1)) || (decide (15 < m0 8)))=true then
          r=(false)
         else
          if ((decide (m0 0=5)) || (decide (m0 0=6)))=true then
           if ((!(decide (m0 8=0))) && (!(decide (m0 8=1))))=true then
            r=(false)
           else
            r=((eqN 28 m0 (updI (updI (updI (updI (updI (updI (updI (fun _=>0) 0 (m0 0)) 1 (m0 1)) 2 (m0 2)) 3 (m0 3)) 4 (m0 4)) 8 (m0 8)) 8 (m0 8))))
          else
           r=((eqN 28 m0 (updI (updI (updI (updI (updI (updI (fun _=>0) 0 (m0 0)) 1 (m0 1)) 2 (m0 2)) 3 (m0 3)) 4 (m0 4)) 8 (m0 8))))
        else
         if ((decide (m0 0=5)) || (decide (m0 0=6)))=true then
          if ((!(decide (m0 8=0))) && (!(decide (m0 8=1))))=true then
           r=(false)
          else
           if m0 0=10 then
            if ((!((number_F (m0 9)))) || (decide (m0 3≤m0 9)))=true then
             r=(false)
            else
             r=((eqN 28 m0 (updI (updI (updI (updI (updI (updI (updI (fun _=>0) 0 (m0 0)) 1 (m0 1)) 2 (m0 2)) 3 (m0 3)) 4 (m0 4)) 8 (m0 8)) 9 (m0 9))))
           else
            r=((eqN 28 m0 (updI (updI (updI (updI (updI (updI (fun _=>0) 0 (m0 0)) 1 (m0 1)) 2 (m0 2)) 3 (m0 3)) 4 (m0 4)) 8 (m0 8))))
         else
          if m0 0=10 then
           if ((!((number_F (m0 9)))) || (decide (m0 3≤m0 9)))=true then
            r=(false)
           else
            r=((eqN 28 m0 (updI (updI (updI (updI (updI (updI (fun _=>0) 0 (m0 0)) 1 (m0 1)) 2 (m0 2)) 3 (m0 3)) 4 (m0 4)) 9 (m0 9))))
          else
           r=((eqN 28 m0 (updI (updI (updI (updI (updI (fun _=>0) 0 (m0 0)) 1 (m0 1)) 2 (m0 2)) 3 (m0 3)) 4 (m0 4))))
      else
       r=(false)
     else
      if m0 0≤2 then
       if (((!((ref02Ok_F (fun i=>m0 (5 + i))))) || (decide (m0 7 < 1))) || (decide (4 < m0 7)))=true then
        r=(false)
       else
        if m0 0=3 then
         if ((decide (m0 8 < 1)) || (decide (15 < m0 8)))=true then
          r=(false)
         else
          if ((decide (m0 0=5)) || (decide (m0 0=6)))=true then
           if ((!(decide (m0 8=0))) && (!(decide (m0 8=1))))=true then
            r=(false)
           else
            r=((eqN 28 m0 (updI (updI (updI (updRI (updI (updI (updI (updI (fun _=>0) 0 (m0 0)) 1 (m0 1)) 2 (m0 2)) 3 (m0 3)) 5 2 (fun i=>m0 (5 + i))) 7 (m0 7)) 8 (m0 8)) 8 (m0 8))))
          else
           r=((eqN 28 m0 (updI (updI (updRI (updI (updI (updI (updI (fun _=>0) 0 (m0 0)) 1 (m0 1)) 2 (m0 2)) 3 (m0 3)) 5 2 (fun i=>m0 (5 + i))) 7 (m0 7)) 8 (m0 8))))
        else
         if ((decide (m0 0=5)) || (decide (m0 0=6)))=true then
          if ((!(decide (m0 8=0))) && (!(decide (m0 8=1))))=true then
           r=(false)
          else
           if m0 0=10 then
            if ((!((number_F (m0 9)))) || (decide (m0 3≤m0 9)))=true then
             r=(false)
            else
             r=((eqN 28 m0 (updI (updI (updI (updRI (updI (updI (updI (updI (fun _=>0) 0 (m0 0)) 1 (m0 1)) 2 (m0 2)) 3 (m0 3)) 5 2 (fun i=>m0 (5 + i))) 7 (m0 7)) 8 (m0 8)) 9 (m0 9))))
           else
            r=((eqN 28 m0 (updI (updI (updRI (updI (updI (updI (updI (fun _=>0) 0 (m0 0)) 1 (m0 1)) 2 (m0 2)) 3 (m0 3)) 5 2 (fun i=>m0 (5 + i))) 7 (m0 7)) 8 (m0 8))))
         else
          if m0 0=10 then
           if ((!((number_F (m0 9)))) || (decide (m0 3≤m0 9)))=true then
            r=(false)
           else
            r=((eqN 28 m0 (updI (updI (updRI (updI (updI (updI (updI (fun _=>0) 0 (m0 0)) 1 (m0 1)) 2 (m0 2)) 3 (m0 3)) 5 2 (fun i=>m0 (5 + i))) 7 (m0 7)) 9 (m0 9))))
          else
           r=((eqN 28 m0 (updI (updRI (updI (updI (updI (updI (fun _=>0) 0 (m0 0)) 1 (m0 1)) 2 (m0 2)) 3 (m0 3)) 5 2 (fun i=>m0 (5 + i))) 7 (m0 7))))
      else
       if m0 0=3 then
        if ((decide (m0 8 < 1)) || (decide (15 < m0 8)))=true then
         r=(false)
        else
         if ((decide (m0 0=5)) || (decide (m0 0=6)))=true then
          if ((!(decide (m0 8=0))) && (!(decide (m0 8=1))))=true then
           r=(false)
          else
           r=((eqN 28 m0 (updI (updI (updI (updI (updI (updI (fun _=>0) 0 (m0 0)) 1 (m0 1)) 2 (m0 2)) 3 (m0 3)) 8 (m0 8)) 8 (m0 8))))
         else
          r=((eqN 28 m0 (updI (updI (updI (updI (updI (fun _=>0) 0 (m0 0)) 1 (m0 1)) 2 (m0 2)) 3 (m0 3)) 8 (m0 8))))
       else
        if ((decide (m0 0=5)) || (decide (m0 0=6)))=true then
         if ((!(decide (m0 8=0))) && (!(decide (m0 8=1))))=true then
          r=(false)
         else
          if m0 0=10 then
           if ((!((number_F (m0 9)))) || (decide (m0 3≤m0 9)))=true then
            r=(false)
           else
            r=((eqN 28 m0 (updI (updI (updI (updI (updI (updI (fun _=>0) 0 (m0 0)) 1 (m0 1)) 2 (m0 2)) 3 (m0 3)) 8 (m0 8)) 9 (m0 9))))
          else
           r=((eqN 28 m0 (updI (updI (updI (updI (updI (fun _=>0) 0 (m0 0)) 1 (m0 1)) 2 (m0 2)) 3 (m0 3)) 8 (m0 8))))
        else
         if m0 0=10 then
          if ((!((number_F (m0 9)))) || (decide (m0 3≤m0 9)))=true then
           r=(false)
          else
           r=((eqN 28 m0 (updI (updI (updI (updI (updI (fun _=>0) 0 (m0 0)) 1 (m0 1)) 2 (m0 2)) 3 (m0 3)) 9 (m0 9))))
         else
          r=((eqN 28 m0 (updI (updI (updI (updI (fun _=>0) 0 (m0 0)) 1 (m0 1)) 2 (m0 2)) 3 (m0 3))))
    else
     r=(false)))
end Go.E
namespace Go.E
open Go
theorem num_eq (n : Int) : number_F n = txB n := by
  simp only [number_F, txB, inB]
  rw [show decide (0 < n) = decide (1 ≤ n) from decide_eq_decide.2 (by omega)]
theorem ref_l2_wh (m : Nat → Int) (i : Nat) (hi : i < 8) : Wh (fun (s : Int) (o : Int ⊕ (Unit ⊕ Unit)) => ref04Ok_l2 m (i : Int) s o) 0 (if (List.range i).all (newF m i) = true then .inl () else .inr ()) := by
  refine Wh.all i (newF m i) _ _ (fun k hk hp => ?_) (fun k hk hp => ?_) ?_
  · unfold ref04Ok_l2
    rw [if_pos (by omega)]
    refine ⟨by omega, by omega, ?_⟩
    simp only [newF, Bool.not_eq_true', decide_eq_false_iff_not] at hp
    rw [if_neg (by simpa using hp)]
    exact ⟨imin (by omega), rfl⟩
  · unfold ref04Ok_l2
    rw [if_pos (by omega)]
    refine ⟨by omega, by omega, ?_⟩
    simp only [newF, Bool.not_eq_false', decide_eq_true_eq] at hp
    rw [if_pos (by simpa using hp)]
  · unfold ref04Ok_l2
    rw [if_neg (by omega)]
theorem ref_l1_wh (m : Nat → Int) : Wh (fun (s : Int) (o : Int ⊕ (Unit ⊕ Unit)) => ref04Ok_l1 m s o) 0 (if (List.range 8).all (stepF m) = true then .inl () else .inr ()) := by
  have key : ∀ k : Nat, k < 8 → ref04Ok_l1 m k (if stepF m k = true then .inl ((k : Int) + 1) else .inr (.inr ())) := by
    intro k hk
    unfold ref04Ok_l1
    rw [if_pos (by omega)]
    rw [step_eq]
    unfold stepB
    simp only [Int.toNat_natCast, num_eq]
    by_cases h1 : m 11 ≤ k
    · rw [if_pos h1, if_pos h1]
      refine ⟨by omega, fun _ => by omega, ?_⟩
      simp only [Nat.add_zero]
      by_cases h2 : m (12 + k * 2) = 0
      · by_cases h3 : m (12 + k * 2 + 1) = 0
        · rw [if_neg (by simp [h2, h3]), if_pos (by simp [h2]; simpa [Nat.add_assoc] using h3)]
          exact ⟨imin (by omega), rfl⟩
        · rw [if_pos (by simp [h3]), if_neg (by simp [h2]; simpa [Nat.add_assoc] using h3)]
      · rw [if_pos (by simp [h2]), if_neg (by simp [h2])]
    · rw [if_neg h1, if_neg h1]
      refine ⟨by omega, fun _ => by omega, ?_⟩
      simp only [Nat.add_zero]
      by_cases h2 : txB (m (12 + k * 2)) = true
      · by_cases h3 : txB (m (12 + k * 2 + 1)) = true
        · have h3' : inB (m (12 + (k * 2 + 1))) 1 1048576 = true := h3
          rw [if_neg (by simp [h2, h3])]
          refine ⟨_, ref_l2_wh m k hk, ?_⟩
          have hn : newB m k k = (List.range k).all (newF m k) := by unfold newB; rw [newF_eq]
          by_cases h4 : (List.range k).all (newF m k) = true
          · rw [if_pos h4, if_pos (by rw [h2, h3', hn, h4]; rfl)]
            exact ⟨imin (by omega), rfl⟩
          · rw [if_neg h4, if_neg (by rw [h2, h3', hn]; simpa using h4)]
            rfl
        · have h3' : ¬ inB (m (12 + (k * 2 + 1))) 1 1048576 = true := h3
          rw [if_pos (by simp [h3]), if_neg (by simp [h3'])]
      · rw [if_pos (by simp [h2]), if_neg (by simp [h2])]
  refine Wh.all 8 (stepF m) _ _ (fun k hk hp => ?_) (fun k hk hp => ?_) ?_
  · have := key k hk; rwa [if_pos hp] at this
  · have := key k hk; rwa [if_neg (by simp [hp])] at this
  · unfold ref04Ok_l1
    rw [if_neg (by omega)]
end Go.E
namespace Go.E
open Go
theorem boolEq {a b : Bool} (h : a = true ↔ b = true) : a = b := Bool.eq_iff_iff.2 h
theorem notB {a : Bool} (h : ¬ a = true) : a = false := by simpa using h
theorem ref04Ok_ok (m : Nat → Int) : ref04Ok_S m (okB m) := by
  unfold ref04Ok_S
  by_cases h0 : (decide (m 0 < 1) || decide (11 < m 0)) = true
  · rw [if_pos h0]
    refine notB fun h => ?_
    have := okB_kind h
    simp at h0; omega
  · rw [if_neg h0]
    have h1 : 1 ≤ m 0 ∧ m 0 ≤ 11 := by simp at h0; omega
    refine ⟨⟨by omega, by omega⟩, ⟨by omega, by show m 0 - 1 < 11; omega⟩, ?_⟩
    rw [ways_eq m h1.1 h1.2]
    by_cases he : endsB m = true
    · rw [if_neg (by simp [he])]
      by_cases h11 : m 0 = 11
      · rw [if_pos h11]
        have hm : okB m = (pathB m && eqN 28 (mayZ m) (headM m)) := by
          unfold okB mayB
          rw [he, Bool.true_and]
          rw [if_neg (by omega), if_neg (by omega), if_neg (by omega), if_neg (by omega), if_neg (by omega), if_pos h11]
        rw [hm]
        have hz : mayZ m = updRI (updI (updI (updI m 11 0) 9 0) 10 0) 12 16 (fun _ => 0) := by
          unfold mayZ
          rw [if_neg (by omega), if_neg (by omega), if_neg (by omega), if_neg (by omega), if_neg (by omega), if_pos h11]
        by_cases hg : (decide (m 11 < 1) || decide (8 < m 11) || (!number_F (m 9)) || decide (m 10 < 0) || decide (1048576 < m 10)) = true
        · rw [if_pos hg]
          refine notB fun h => ?_
          simp only [Bool.and_eq_true, pathB, inB, txB, decide_eq_true_eq] at h
          rw [num_eq] at hg
          simp [txB, inB] at hg
          omega
        · rw [if_neg hg]
          refine ⟨_, ref_l1_wh m, ?_⟩
          have hp : pathB m = (List.range 8).all (stepF m) := by
            unfold pathB
            rw [show stepF m = stepB m from funext (step_eq m)]
            have : (inB (m 11) 1 8 && txB (m 9) && inB (m 10) 0 1048576) = true := by
              rw [num_eq] at hg
              simp [txB, inB] at hg ⊢
              omega
            rw [this, Bool.true_and]
          rw [hp]
          by_cases ha : (List.range 8).all (stepF m) = true
          · rw [if_pos ha, ha, Bool.true_and, hz]
            refine boolEq ?_
            simp only [eqN_iff, all28, updI, updRI, headM]
            simp
          · rw [if_neg ha, notB ha]; rfl
      · rw [if_neg h11]
        have hk := okB_oth m h11
        rw [he] at hk
        simp only [true_and] at hk
        clear h0
        simp only [num_eq, ref02Ok_F, Nat.add_zero]
        have hkind : m 0 = 1 ∨ m 0 = 2 ∨ m 0 = 3 ∨ m 0 = 4 ∨ m 0 = 5 ∨ m 0 = 6 ∨ m 0 = 7 ∨ m 0 = 8 ∨ m 0 = 9 ∨ m 0 = 10 := by omega
        have hf : ∀ {A : Prop}, (¬ A) → (okB m = true ↔ A ∧ zt m) → okB m = false := fun ha h => notB fun hh => ha (h.1 hh).1
        have hg : ∀ {A Z : Prop} {g : Nat → Int}, (okB m = true ↔ A ∧ zt m) → (eqN 28 m g = true ↔ Z ∧ zt m) → (A ↔ Z) → okB m = eqN 28 m g := fun h1 h2 h3 => boolEq (by rw [h1, h2, h3])
        clear h1 h11 he
        rcases hkind with e | e | e | e | e | e | e | e | e | e
        all_goals
          simp only [oth, e] at hk
          simp only [e]
          simp only [Int.reduceLE, Int.reduceEq, decide_true, decide_false, Bool.or_false, Bool.or_true, Bool.false_eq_true, if_true, if_false, reduceIte, or_false, or_true, false_or, true_or, false_and, true_and] at hk ⊢
          repeat' (refine ite_intro (fun _ => ?_) (fun _ => ?_))
          all_goals first
            | (refine hf ?_ hk; simp [txB, inB] at *; omega)
            | (refine hg (Z := m 4 = 0 ∧ m 5 = 0 ∧ m 6 = 0 ∧ m 7 = 0 ∧ m 8 = 0 ∧ m 9 = 0) hk ?_ ?_
               · simp only [eqN_iff, all28, updI, updRI, zt]; simp [e]; try omega
               · simp [txB, inB] at *; omega)
            | (refine hg (Z := m 5 = 0 ∧ m 6 = 0 ∧ m 7 = 0 ∧ m 9 = 0) hk ?_ ?_
               · simp only [eqN_iff, all28, updI, updRI, zt]; simp [e]; try omega
               · simp [txB, inB] at *; omega)
            | (refine hg (Z := m 4 = 0 ∧ m 5 = 0 ∧ m 6 = 0 ∧ m 7 = 0 ∧ m 9 = 0) hk ?_ ?_
               · simp only [eqN_iff, all28, updI, updRI, zt]; simp [e]; try omega
               · simp [txB, inB] at *; omega)
            | (refine hg (Z := m 4 = 0 ∧ m 5 = 0 ∧ m 6 = 0 ∧ m 7 = 0 ∧ m 8 = 0) hk ?_ ?_
               · simp only [eqN_iff, all28, updI, updRI, zt]; simp [e]; try omega
               · simp [txB, inB] at *; omega)
            | (refine hg (Z := m 8 = 0 ∧ m 9 = 0) hk ?_ ?_
               · simp only [eqN_iff, all28, updI, updRI, zt]; simp [e]; try omega
               · simp [txB, inB] at *; omega)
    · rw [if_pos (by simp [he])]
      unfold okB
      rw [notB he]; rfl
end Go.E
namespace Go.E
open Go
def sends18_l4 (za : LM × Int × Int × Int × Int × UM × LM × NI) (rn24 : (Int × Int × (List UT) × LM)) (k12 : Int) (n14 : Int) (there13a : Bool) (s15 : Int) (o : (Bool × Int) ⊕ (Bool)) : Prop :=
 (0≤n14∧n14 < rn24.2.2.1.length)∧(
 if s15 < (((rn24.2.2.1[n14.toNat]!).2.2.2.2.2.2.2.2.1).length : Int) then
  (((there13a)=false) → 0≤n14∧n14 < rn24.2.2.1.length)∧(((there13a)=false) → 0≤k12∧k12 < za.1.length)∧(((there13a)=false) → ((decide ((rn24.2.2.1[n14.toNat]!).1=za.1[k12.toNat]! 3))=true) → 0≤n14∧n14 < rn24.2.2.1.length)∧(((there13a)=false) → ((decide ((rn24.2.2.1[n14.toNat]!).1=za.1[k12.toNat]! 3))=true) → 0≤s15∧s15 < ((rn24.2.2.1[n14.toNat]!).2.2.2.2.2.2.2.2.1).length)∧(((there13a)=false) → ((decide ((rn24.2.2.1[n14.toNat]!).1=za.1[k12.toNat]! 3))=true) → 0≤k12∧k12 < za.1.length)∧(
  (inI64 (s15 + 1))∧(
  o=(.inl ((there13a) || ((decide ((rn24.2.2.1[n14.toNat]!).1=za.1[k12.toNat]! 3)) && (decide (((rn24.2.2.1[n14.toNat]!).2.2.2.2.2.2.2.2.1)[s15.toNat]! = za.1[k12.toNat]! 2))),s15 + 1))))
 else
  o=(.inr there13a))
def sends18_k4a (n14 : Int) (there13a : Bool) (o : (Bool × Int) ⊕ (Bool)) : Prop :=
 (inI64 (n14 + 1))∧(
 o=(.inl (there13a,n14 + 1)))
def sends18_l3 (za : LM × Int × Int × Int × Int × UM × LM × NI) (rn24 : (Int × Int × (List UT) × LM)) (k12 : Int) (there13 : Bool) (n14 : Int) (o : (Bool × Int) ⊕ (Bool)) : Prop :=
 if n14 < (rn24.2.2.1.length : Int) then
  ∃ x : Bool,Wh (fun (s : Bool × Int) (o : (Bool × Int) ⊕ (Bool))=>sends18_l4 za rn24 k12 n14 s.1 s.2 o) ((there13,0) : Bool × Int) x∧sends18_k4a n14 x o
 else
  o=(.inr there13)
def sends18_k3a (k12 : Int) (there13 : Bool) (o : (Int) ⊕ ((Unit) ⊕ (Unit))) : Prop :=
 if (there13)=true then
  (inI64 (k12 + 1))∧(
  o=(.inl (k12 + 1)))
 else
  o=(.inr (.inr ()))
def sends18_l2 (za : LM × Int × Int × Int × Int × UM × LM × NI) (rn24 : (Int × Int × (List UT) × LM)) (k12 : Int) (o : (Int) ⊕ ((Unit) ⊕ (Unit))) : Prop :=
 if k12 < (za.1.length : Int) then
  (0≤k12∧k12 < za.1.length)∧(((!((okB (za.1[k12.toNat]!))))=false) → 0≤k12∧k12 < za.1.length)∧((((!((okB (za.1[k12.toNat]!)))) || (!(decide (za.1[k12.toNat]! 1=0))))=false) → 0≤k12∧k12 < za.1.length)∧(((((!((okB (za.1[k12.toNat]!)))) || (!(decide (za.1[k12.toNat]! 1=0)))) || (decide (za.1[k12.toNat]! 2 < 1)))=false) → 0≤k12∧k12 < za.1.length)∧(
  if ((((!((okB (za.1[k12.toNat]!)))) || (!(decide (za.1[k12.toNat]! 1=0)))) || (decide (za.1[k12.toNat]! 2 < 1))) || (decide (2 < za.1[k12.toNat]! 2)))=true then
   o=(.inr (.inr ()))
  else
   (0≤k12∧k12 < za.1.length)∧(
   if za.1[k12.toNat]! 0=11 then
    (inI64 (k12 + 1))∧(
    o=(.inl (k12 + 1)))
   else
    ∃ x : Bool,Wh (fun (s : Bool × Int) (o : (Bool × Int) ⊕ (Bool))=>sends18_l3 za rn24 k12 s.1 s.2 o) ((false,0) : Bool × Int) x∧sends18_k3a k12 x o))
 else
  o=(.inr (.inl ()))
def sends18_k2a (i7 : Int) (za : LM × Int × Int × Int × Int × UM × LM × NI) (o : (Int × Int × Int × UM × LM × NI) ⊕ ((Int × Int × UM × LM × NI) ⊕ (Int × Int × UM × LM × NI))) : Prop :=
 (inI64 (i7 + 1))∧(
 o=(.inl (i7 + 1,za.2.2.2.1,za.2.2.2.2.1,za.2.2.2.2.2.1,za.2.2.2.2.2.2.1,za.2.2.2.2.2.2.2)))
def sends18_k2b (za : LM × Int × Int × Int × Int × UM × LM × NI) (o : (Int × Int × Int × UM × LM × NI) ⊕ ((Int × Int × UM × LM × NI) ⊕ (Int × Int × UM × LM × NI))) : Prop :=
 o=(.inr (.inr (za.2.2.2.1,za.2.2.2.2.1,za.2.2.2.2.2.1,za.2.2.2.2.2.2.1,za.2.2.2.2.2.2.2)))
def sends18_l1 (probe0 : Bool) (acts1 : LM) (i7 : Int) (zd : Int) (zf : Int) (zb : UM) (zc : LM) (fb13 : NI) (o : (Int × Int × Int × UM × LM × NI) ⊕ ((Int × Int × UM × LM × NI) ⊕ (Int × Int × UM × LM × NI))) : Prop :=
 if i7 < (acts1.length : Int) then
  (0≤i7∧i7 < acts1.length)∧(
  (act18_P (updI (updI (updI (updI (updI (updI (updI (fun _=>0) 0 2) 1 (bI probe0)) 2 5) 3 3) 4 40) 5 6) 6 1000) fb13 zd zf zb zc (acts1[i7.toNat]!))∧(
  ∃ za : LM × Int × Int × Int × Int × UM × LM × NI,za=(act18_F (updI (updI (updI (updI (updI (updI (updI (fun _=>0) 0 2) 1 (bI probe0)) 2 5) 3 3) 4 40) 5 6) 6 1000) fb13 zd zf zb zc (acts1[i7.toNat]!))∧(
  (kview_P (updI (updI (updI (updI (updI (updI (updI (fun _=>0) 0 2) 1 (bI probe0)) 2 5) 3 3) 4 40) 5 6) 6 1000) za.2.2.2.2.2.2.2 za.2.2.2.1 za.2.2.2.2.1 za.2.2.2.2.2.1 za.2.2.2.2.2.2.1)∧(
  ∃ rn24 : (Int × Int × (List UT) × LM),rn24=(kview_F (updI (updI (updI (updI (updI (updI (updI (fun _=>0) 0 2) 1 (bI probe0)) 2 5) 3 3) 4 40) 5 6) 6 1000) za.2.2.2.2.2.2.2 za.2.2.2.1 za.2.2.2.2.1 za.2.2.2.2.2.1 za.2.2.2.2.2.2.1)∧(
  ∃ x : (Unit) ⊕ (Unit),Wh (fun (s : Int) (o : (Int) ⊕ ((Unit) ⊕ (Unit)))=>sends18_l2 za rn24 s o) (0 : Int) x∧(match x with | .inl _=>sends18_k2a i7 za o | .inr _=>sends18_k2b za o))))))
 else
  o=(.inr (.inl (zd,zf,zb,zc,fb13)))
def sends18_k1a (zd : Int) (zf : Int) (zb : UM) (zc : LM) (fb13 : NI) (r : Bool) : Prop :=
 r=(true)
def sends18_k1b (zd : Int) (zf : Int) (zb : UM) (zc : LM) (fb13 : NI) (r : Bool) : Prop :=
 r=(false)
def sends18_S (probe0 : Bool) (acts1 : LM) (r : Bool) : Prop :=
 if (alive18_F)=true then
  if 60 < (acts1.length : Int) then
   r=(true)
  else
   if ((decide (1≤2)) && (decide (2≤64)))=true then
    if ((decide (1≤5)) && (decide (5≤1000)))=true then
     if ((decide (1≤3)) && (decide (3≤1000)))=true then
      if ((decide (1≤40)) && (decide (40≤4096)))=true then
       if ((decide (1≤6)) && (decide (6≤64)))=true then
        if ((decide (1≤1000)) && (decide (1000≤65536)))=true then
         ∃ x : (Int × Int × UM × LM × NI) ⊕ (Int × Int × UM × LM × NI),Wh (fun (s : Int × Int × Int × UM × LM × NI) (o : (Int × Int × Int × UM × LM × NI) ⊕ ((Int × Int × UM × LM × NI) ⊕ (Int × Int × UM × LM × NI)))=>sends18_l1 probe0 acts1 s.1 s.2.1 s.2.2.1 s.2.2.2.1 s.2.2.2.2.1 s.2.2.2.2.2 o) ((0,0,0,[],[],(updI (fun _=>0) 0 4)) : Int × Int × Int × UM × LM × NI) x∧(match x with | .inl (zd,zf,zb,zc,fb13)=>sends18_k1a zd zf zb zc fb13 r | .inr (zd,zf,zb,zc,fb13)=>sends18_k1b zd zf zb zc fb13 r)
        else
         r=(false)
       else
        r=(false)
      else
       r=(false)
     else
      r=(false)
    else
     r=(false)
   else
    r=(false)
 else
  r=(false)
end Go.E
namespace Go.Proofs.YtljklmlodfbdnaaGreat
open Go Go.E
theorem inn_con (n0 : Int) (low1 : Int) (high2 : Int) (w : World) (r : Bool) (h : inn_S n0 low1 high2 r) : Con Tryz.prog 137 #[iI n0,iI low1,iI high2] w (Is (.bool r) []) := by
 unfold inn_S at h; refine ce Tryz.func137 rfl Tryz.ntmps137 rfl (wS (va rfl (nS (xw_seq (wk [] rfl [(6,.bool ((decide (low1≤n0)) && (decide (n0≤high2))))] ?_ ?_)))))
 ·refine xw_region (vm rfl (vm rfl (xQ rfl (o_geq rfl rfl) (vm rfl (od' 10 rfl (fun hp1=>?_) fun hp1=>?_)))))
  ·exact vm rfl (vm rfl (xQ rfl (o_leq rfl rfl) (vt rfl (va rfl (xo_nil (qk rfl (by simp [hp1]) rfl))))))
  ·exact vs rfl (vs rfl (vs rfl (vf rfl (va rfl (xo_nil (qk rfl (by simp [hp1]) rfl))))))
 ·refine xq_then (xw_ret ?_); subst h
  exact rO Tryz.results137 rfl (⟨rfl,rfl⟩)
theorem shard_con (n0 : Int) (w : World) (r : Bool) (h : shard_S n0 r) : Con Tryz.prog 136 #[iI n0] w (Is (.bool r) []) := by
 unfold shard_S at h; refine ce Tryz.func136 rfl Tryz.ntmps136 rfl (wS (va rfl (nR (vm rfl (xc rfl kf137 rfl (fun w1 hw1=>inn_con _ _ _ w1 _ (inn_ok _ _ _)) (va rfl (nS (xw_ret ?_)))))))); subst h
 exact rO Tryz.results136 rfl (⟨rfl,rfl⟩)
theorem tx_con (n0 : Int) (w : World) (r : Bool) (h : tx_S n0 r) : Con Tryz.prog 138 #[iI n0] w (Is (.bool r) []) := by
 unfold tx_S at h; refine ce Tryz.func138 rfl Tryz.ntmps138 rfl (wS (va rfl (nR (vm rfl (xc rfl kf137 rfl (fun w1 hw1=>inn_con _ _ _ w1 _ (inn_ok _ _ _)) (va rfl (nS (xw_ret ?_)))))))); subst h
 exact rO Tryz.results138 rfl (⟨rfl,rfl⟩)
theorem ends_con (m0 : NI) (w : World) (r : Bool) (h : ends_S m0 r) : Con Tryz.prog 103 #[AI 28 m0] w (Is (.bool r) []) := by
 unfold ends_S at h; refine ce Tryz.func103 rfl Tryz.ntmps103 rfl (wS (xr rfl (o_boxA rfl) ?_)); rintro _ _ ⟨b1,hb1,rfl,rfl⟩; refine va rfl (nS (xw_seq (wS (xQ rfl (o_fa0 fl45_0 rfl) (xQ rfl (o_ldI (v := m0 0) rfl ts3 mH (by omega) rfl) (nS (xw_block (xw_seq (xw_block (xw_seq ?_)))))))))); refine xw_block (xw_seq (xw_seq (wS (xQ rfl (o_eql rfl rfl) (va rfl (nS (wd rfl h (fun hp1 h=>?_) fun hp1 h=>?_)))))))
 ·refine xw_exit (xq_then_exit (xq_then_exit (xq_blk_eq (xq_then (wS (xQ rfl (o_fa0 fl45_1 rfl) (xQ rfl (o_ldI (v := m0 1) rfl ts3 mH (by omega) rfl) (xQ rfl (o_neq rfl rfl) (nS (wn rfl h (fun hp2 h=>?_) fun hp2 h=>?_))))))))))
  ·refine xw_seq (wk [] rfl [(2,.bool (((shard_F (m0 1))) && (decide (m0 2=0))))] ?_ ?_)
   ·refine xw_region (xQ rfl (o_fa0 fl45_1 rfl) (xQ rfl (o_ldI (v := m0 1) rfl ts3 mH (by omega) rfl) (xc rfl kf136 rfl (fun w1 hw1=>shard_con _ w1 _ (shard_ok _)) (vm rfl (ob' 18 rfl (fun hp3=>?_) fun hp3=>?_)))))
    ·exact xQ rfl (o_fa0 fl45_2 rfl) (xQ rfl (o_ldI (v := m0 2) rfl ts3 mH (by omega) rfl) (xQ rfl (o_eql rfl rfl) (vt rfl (va rfl (xo_nil (qk rfl (by simp [hp1,hp2,hp3]) rfl))))))
    ·exact vs rfl (vs rfl (vs rfl (vf rfl (va rfl (xo_nil (qk rfl (by simp [hp1,hp2,hp3]) rfl))))))
   ·refine xq_then (xw_ret (xq_blk_ret (xq_then_ret (xq_blk_ret (xq_then_ret ?_))))); subst h
    exact yA Tryz.results103 rfl [] (Kp.st (Kp.new hb1 Kp.nil)) (⟨rfl,rfl⟩)
  ·refine xw_skip (xq_blk 2 (xq_then (xw_seq (xw_seq (wk [] rfl [(2,.bool ((decide (m0 1=0)) && ((shard_F (m0 2)))))] ?_ ?_)))))
   ·exact xw_region (xQ rfl (o_fa0 fl45_1 rfl) (xQ rfl (o_ldI (v := m0 1) rfl ts3 mH (by omega) rfl) (xQ rfl (o_eql rfl rfl) (vm rfl (xo_val 26 rfl (v' := .bool true) (congrArg Value.bool (dT hp2)) (xQ rfl (o_fa0 fl45_2 rfl) (xQ rfl (o_ldI (v := m0 2) rfl ts3 mH (by omega) rfl) (xc rfl kf136 rfl (fun w1 hw1=>shard_con _ w1 _ (shard_ok _)) (vt rfl (va rfl (xo_nil (qk rfl (by simp [hp1,hp2]) rfl))))))))))))
   ·refine xq_then (xw_ret (xq_then_ret (xq_blk_ret (xq_then_ret ?_)))); subst h
    exact yA Tryz.results103 rfl [] (Kp.st (Kp.new hb1 Kp.nil)) (⟨rfl,rfl⟩)
 ·refine xw_skip (xq_then (xw_seq (wS (xQ rfl (o_eql rfl rfl) (va rfl (nS (wk [1] rfl [(7,.bool ((decide (m0 0=1)) || ((decide (m0 0=4)) || ((decide (m0 0=6)) || (decide (m0 0=8))))))] ?_ ?_)))))))
  ·refine wd' rfl (fun hp5=>?_) fun hp5=>?_
   ·exact xw_skip (qk rfl (by simp [hp1,hp5]) rfl)
   ·refine wS (xQ rfl (o_eql rfl rfl) (va rfl (nS (wk [1] rfl [(7,.bool ((decide (m0 0=4)) || ((decide (m0 0=6)) || (decide (m0 0=8)))))] ?_ ?_))))
    ·refine wd' rfl (fun hp6=>?_) fun hp6=>?_
     ·exact xw_skip (qk rfl (by simp [hp1,hp5,hp6]) rfl)
     ·refine wS (xQ rfl (o_eql rfl rfl) (va rfl (nS (wk [1] rfl [(7,.bool ((decide (m0 0=6)) || (decide (m0 0=8))))] ?_ ?_))))
      ·refine wd' rfl (fun hp7=>?_) fun hp7=>?_
       ·exact xw_skip (qk rfl (by simp [hp1,hp5,hp6,hp7]) rfl)
       ·exact xw_region (xQ rfl (o_eql rfl rfl) (va rfl (xo_nil (qk rfl (by simp [hp1,hp5,hp6,hp7]) rfl))))
      ·exact qk rfl (by simp [hp1,hp5,hp6]) rfl
    ·exact qk rfl (by simp [hp1,hp5]) rfl
  ·refine xq_then (wb rfl h (fun hp8 h=>?_) fun hp8 h=>?_)
   ·refine xw_exit (xq_then_exit (xq_blk_ne rfl (xq_then_exit (xq_blk_eq (xq_then (xw_seq (xw_seq (wk [] rfl [(2,.bool ((decide (m0 1=0)) && ((shard_F (m0 2)))))] ?_ ?_))))))))
    ·refine xw_region (xQ rfl (o_fa0 fl45_1 rfl) (xQ rfl (o_ldI (v := m0 1) rfl ts3 mH (by omega) rfl) (xQ rfl (o_eql rfl rfl) (vm rfl (od' 26 rfl (fun hp9=>?_) fun hp9=>?_)))))
     ·exact xQ rfl (o_fa0 fl45_2 rfl) (xQ rfl (o_ldI (v := m0 2) rfl ts3 mH (by omega) rfl) (xc rfl kf136 rfl (fun w1 hw1=>shard_con _ w1 _ (shard_ok _)) (vt rfl (va rfl (xo_nil (qk rfl (by simp [hp1,hp8,hp9]) rfl))))))
     ·exact vs rfl (vs rfl (vs rfl (vf rfl (va rfl (xo_nil (qk rfl (by simp [hp1,hp8,hp9]) rfl))))))
    ·refine xq_then (xw_ret (xq_then_ret (xq_blk_ret (xq_then_ret ?_)))); subst h
     exact yA Tryz.results103 rfl [] (Kp.st (Kp.new hb1 Kp.nil)) (⟨rfl,rfl⟩)
   ·refine xw_skip (xq_then (xw_exit (xq_blk_ne rfl (xq_then_exit (xq_blk_ne rfl (xq_then_exit (xq_blk_eq (xq_then (xw_seq (wk [] rfl [(2,.bool (((shard_F (m0 1))) && (decide (m0 2=0))))] ?_ ?_))))))))))
    ·refine xw_region (xQ rfl (o_fa0 fl45_1 rfl) (xQ rfl (o_ldI (v := m0 1) rfl ts3 mH (by omega) rfl) (xc rfl kf136 rfl (fun w1 hw1=>shard_con _ w1 _ (shard_ok _)) (vm rfl (ob' 34 rfl (fun hp10=>?_) fun hp10=>?_)))))
     ·exact xQ rfl (o_fa0 fl45_2 rfl) (xQ rfl (o_ldI (v := m0 2) rfl ts3 mH (by omega) rfl) (xQ rfl (o_eql rfl rfl) (vt rfl (va rfl (xo_nil (qk rfl (by simp [hp1,hp8,hp10]) rfl))))))
     ·exact vs rfl (vs rfl (vs rfl (vf rfl (va rfl (xo_nil (qk rfl (by simp [hp1,hp8,hp10]) rfl))))))
    ·refine xq_then (xw_ret ?_); subst h
     exact yA Tryz.results103 rfl [] (Kp.st (Kp.new hb1 Kp.nil)) (⟨rfl,rfl⟩)
theorem resOk_con (r0 : NI) (w : World) (r : Bool) (h : resOk_S r0 r) : Con Tryz.prog 93 #[AI 2 r0] w (Is (.bool r) []) := by
 unfold resOk_S at h; refine ce Tryz.func93 rfl Tryz.ntmps93 rfl (wS (xr rfl (o_boxA rfl) ?_)); rintro _ _ ⟨b1,hb1,rfl,rfl⟩; refine va rfl (nS (xw_seq (wk [] rfl [(2,.bool ((((decide (1≤r0 0)) && (decide (r0 0≤250))) && (decide (0≤r0 1))) && (decide (r0 1≤250))))] ?_ ?_)))
 ·refine xw_region (xQ rfl (o_fa0 fl39_0 rfl) (xQ rfl (o_ldI (v := r0 0) rfl ts3 mH (by omega) rfl) (xQ rfl (o_geq rfl rfl) (vm rfl (od' 6 rfl (fun hp1=>?_) fun hp1=>?_)))))
  ·refine xQ rfl (o_fa0 fl39_0 rfl) (xQ rfl (o_ldI (v := r0 0) rfl ts3 mH (by omega) rfl) (xQ rfl (o_leq rfl rfl) (vt rfl (vm rfl (od' 11 rfl (fun hp2=>?_) fun hp2=>?_)))))
   ·refine xQ rfl (o_fa0 fl39_1 rfl) (xQ rfl (o_ldI (v := r0 1) rfl ts3 mH (by omega) rfl) (xQ rfl (o_geq rfl rfl) (vt rfl (vm rfl (od' 16 rfl (fun hp3=>?_) fun hp3=>?_)))))
    ·exact xQ rfl (o_fa0 fl39_1 rfl) (xQ rfl (o_ldI (v := r0 1) rfl ts3 mH (by omega) rfl) (xQ rfl (o_leq rfl rfl) (vt rfl (va rfl (xo_nil (qk rfl (by simp [hp1,hp2,hp3]) rfl))))))
    ·exact vs rfl (vs rfl (vs rfl (vf rfl (va rfl (xo_nil (qk rfl (by simp [hp1,hp2,hp3]) rfl))))))
   ·exact vs rfl (vs rfl (vs rfl (vf rfl (vm rfl (vs rfl (vs rfl (vs rfl (vf rfl (va rfl (xo_nil (qk rfl (by simp [hp1,hp2]) rfl)))))))))))
  ·refine vs rfl (vs rfl (vs rfl (vf rfl (vm rfl (vs rfl (vs rfl (vs rfl (vf rfl (vm rfl (vs rfl (vs rfl (vs rfl (vf rfl ?_))))))))))))); exact va rfl (xo_nil (qk rfl (by simp [hp1]) rfl))
 ·refine xq_then (xw_ret ?_); subst h
  exact yA Tryz.results93 rfl [] (Kp.st (Kp.new hb1 Kp.nil)) (⟨rfl,rfl⟩)
theorem path_con (m0 : NI) (w : World) (r : Bool) (h : path_S m0 r) : Con Tryz.prog 139 #[AI 28 m0] w (Is (.bool r) []) := by
 unfold path_S at h; refine ce Tryz.func139 rfl Tryz.ntmps139 rfl (wS (xr rfl (o_boxA rfl) ?_)); rintro _ _ ⟨b1,hb1,rfl,rfl⟩; refine va rfl (nS (xw_seq (xw_seq (wk [1] rfl [(22,.bool (((!((inn_F (m0 11) 1 8))) || (!((tx_F (m0 9))))) || (!((inn_F (m0 10) 0 1048576)))))] ?_ ?_))))
 ·refine xw_region (xQ rfl (o_fa0 fl45_10 rfl) (xQ rfl (o_ldI (v := m0 11) rfl ts3 mH (by omega) rfl) (xc rfl kf137 rfl (fun w1 hw1=>inn_con _ _ _ w1 _ (inn_ok _ _ _)) (xQ rfl (o_not rfl) (vm rfl (oc' 11 rfl (fun hp1=>?_) fun hp1=>?_))))))
  ·exact vs rfl (vs rfl (vs rfl (vs rfl (vt rfl (vm rfl (vs rfl (vs rfl (vs rfl (vs rfl (vt rfl (xo_nil (qk rfl (by simp [hp1]) rfl))))))))))))
  ·refine xQ rfl (o_fa0 fl45_8 rfl) (xQ rfl (o_ldI (v := m0 9) rfl ts3 mH (by omega) rfl) (xc rfl kf138 rfl (fun w1 hw1=>tx_con _ w1 _ (tx_ok _)) (xQ rfl (o_not rfl) (vf rfl (vm rfl (oc' 17 rfl (fun hp2=>?_) fun hp2=>?_))))))
   ·exact vs rfl (vs rfl (vs rfl (vs rfl (vt rfl (xo_nil (qk rfl (by simp [hp1,hp2]) rfl))))))
   ·exact xQ rfl (o_fa0 fl45_9 rfl) (xQ rfl (o_ldI (v := m0 10) rfl ts3 mH (by omega) rfl) (xc rfl kf137 rfl (fun w1 hw1=>inn_con _ _ _ w1 _ (inn_ok _ _ _)) (xQ rfl (o_not rfl) (vf rfl (xo_nil (qk rfl (by simp [hp1,hp2]) rfl))))))
 ·refine xq_then (wb rfl h (fun hp3 h=>?_) fun hp3 h=>?_)
  ·refine wS (va rfl (nS (xw_ret (xq_then_ret ?_)))); subst h
   exact yA Tryz.results139 rfl [] (Kp.st (Kp.new hb1 Kp.nil)) (⟨rfl,rfl⟩)
  ·refine xw_skip (xq_then (xw_seq (wS (xQ rfl (o_fa0 fl45_11 rfl) (xQ rfl (o_ldSI rfl ts43 mH (by omega) (fun _ _=>rfl)) (vm rfl (nS (xw_block ?_)))))))); obtain ⟨x1,hx1,h⟩ := h; refine xw_wh (fun (x25 : Int) e H=>e=[(1,.pointer (some ⟨b1,0,none⟩)),(24,AI 16 (fun i=>m0 (12 + i))),(25,iI x25)]∧H=(b1,BK 28 (iv m0) 45)::([])) (fun x ex e H=>match x with | .inl _=>ex=.exit 0∧e=[]∧H=(b1,BK 28 (iv m0) 45)::([]) | .inr _=>ex=.ret∧e=[(2,.bool false)]∧H=(b1,BK 28 (iv m0) 45)::([])) hx1 ⟨[(1,.pointer (some ⟨b1,0,none⟩)),(24,AI 16 (fun i=>m0 (12 + i))),(25,iI 0)],(b1,_)::([]),(sl rfl),fun _ h=>h,⟨rfl,rfl⟩⟩ ?_ ?_
   ·rintro x25 o _ _ ⟨rfl,rfl⟩ hb; have h : path_l1 m0 x25 o := hb
    clear hb; unfold path_l1 at h; refine wS (xQ rfl (o_lss rfl rfl) (nS (xw_seq (wd rfl h (fun hp4 h=>?_) fun hp4 h=>?_))))
    ·refine xw_skip (xq_then (xw_seq (xw_block (wS (vm rfl ?_))))); obtain ⟨ho5,h⟩ := h; refine xQ rfl (o_ixAI (j := x25.toNat) ea43 rfl rfl ho5 rfl (by decide) (fun _ _=>rfl)) (xr rfl (o_alloc ze42 rfl) ?_); rintro _ _ ⟨b4,hb4,rfl,rfl⟩; refine va rfl (xZ rfl (o_stWI rfl rfl ts42 mH (.here _ _ _ _)) (nS (xw_seq (wS (vm rfl (xQ rfl (o_fa0 fl45_10 rfl) (xQ rfl (o_ldI (v := m0 11) rfl ts3 (mT mH) (by omega) rfl) (xQ rfl (o_geq rfl rfl) (nS (wd rfl h (fun hp6 h=>?_) fun hp6 h=>?_))))))))))
     ·refine xw_seq (wS (xQ rfl (o_ldW rfl ts42 mH) (xQ rfl (o_build fk42 ze42 (.nil _)) (xQ rfl (o_neqA eq42 rfl rfl) (nS (wc rfl h (fun hp7 h=>?_) fun hp7 h=>?_))))))
      ·exact wS (va rfl (nS (xw_ret (xq_then_ret (xq_then_ret (xq_blk_ret (xq_then_ret (xq_out (r := (.inr () : (Unit) ⊕ (Unit))) (e' := [(2,.bool false)]) ((b1,_)::([])) (sl rfl) (Kp.st (Kp.new hb4 (Kp.keep Kp.nil))) h (by intro hh; cases hh) ⟨rfl,rfl,rfl⟩))))))))
      ·refine xw_skip (xq_then (xw_exit (xq_then_exit (xq_blk_eq (xq_then (xw_region ?_)))))); obtain ⟨ho8,h⟩ := h; exact xQ rfl (o_add rfl rfl rfl ho8) (vm rfl (xo_nil (xq_next (s' := (x25 + 1 : Int)) (e' := [(1,.pointer (some ⟨b1,0,none⟩)),(24,AI 16 (fun i=>m0 (12 + i))),(25,iI (x25 + 1))]) ((b1,_)::([])) (sl rfl) (Kp.st (Kp.new hb4 (Kp.keep Kp.nil))) h ⟨rfl,rfl⟩)))
     ·refine xw_skip (xq_then (xw_seq (xw_seq (wk [1,3,4,24,25] rfl [(45,.bool ((!((tx_F (m0 (12 + (x25.toNat * 2)))))) || (!((inn_F (m0 (12 + ((x25.toNat * 2) + 1))) 1 1048576)))))] ?_ ?_))))
      ·refine xw_region (xQ rfl (o_fa0 fl42_0 rfl) (xQ rfl (o_ldI (v := m0 (12 + (x25.toNat * 2))) rfl ts3 mH (by omega) rfl) (xc rfl kf138 rfl (fun w1 hw1=>tx_con _ w1 _ (tx_ok _)) (xQ rfl (o_not rfl) (vm rfl (oc' 40 rfl (fun hp9=>?_) fun hp9=>?_))))))
       ·exact vs rfl (vs rfl (vs rfl (vs rfl (vt rfl (xo_nil (qk rfl (by simp [hp4,hp6,hp9]) rfl))))))
       ·exact xQ rfl (o_fa0 fl42_1 rfl) (xQ rfl (o_ldI (v := m0 (12 + ((x25.toNat * 2) + 1))) rfl ts3 mH (by omega) rfl) (xc rfl kf137 rfl (fun w1 hw1=>inn_con _ _ _ w1 _ (inn_ok _ _ _)) (xQ rfl (o_not rfl) (vf rfl (xo_nil (qk rfl (by simp [hp4,hp6,hp9]) rfl))))))
      ·refine xq_then (wb rfl h (fun hp10 h=>?_) fun hp10 h=>?_)
       ·exact wS (va rfl (nS (xw_ret (xq_then_ret (xq_blk_ret (xq_then_ret (xq_out (r := (.inr () : (Unit) ⊕ (Unit))) (e' := [(2,.bool false)]) ((b1,_)::([])) (sl rfl) (Kp.st (Kp.new hb4 (Kp.keep Kp.nil))) h (by intro hh; cases hh) ⟨rfl,rfl,rfl⟩)))))))
       ·refine xw_skip (xq_then (wS (xQ rfl (o_fa0 fl45_11 rfl) (vm rfl ?_)))); obtain ⟨ho11,h⟩ := h; refine xQ rfl (o_slA (h := x25.toNat) ea43 rfl rfl (Int.toNat_of_nonneg ho11.1).symm (by omega)) (xQ rfl (o_len rfl Tryz.underlying173 rfl) (vm rfl (nS (xw_block ?_)))); obtain ⟨x2,hx2,h⟩ := h; refine xw_wh (fun (x50 : Int) e H=>e=[(1,.pointer (some ⟨b1,0,none⟩)),(4,.pointer (some ⟨b4,0,none⟩)),(24,AI 16 (fun i=>m0 (12 + i))),(25,iI x25),(48,.slice (some ⟨b1,12,none⟩) x25.toNat 8),(49,iI (x25.toNat : Int)),(50,iI x50)]∧H=(b4,BK 2 (iv (fun i=>(fun i=>m0 (12 + i)) ((x25.toNat * 2) + i))) 42)::((b1,BK 28 (iv m0) 45)::([]))) (fun x ex e H=>match x with | .inl _=>ex=.exit 2∧e=[(1,.pointer (some ⟨b1,0,none⟩)),(24,AI 16 (fun i=>m0 (12 + i))),(25,iI x25)]∧H=(b4,BK 2 (iv (fun i=>(fun i=>m0 (12 + i)) ((x25.toNat * 2) + i))) 42)::((b1,BK 28 (iv m0) 45)::([])) | .inr _=>ex=.ret∧e=[(2,.bool false)]∧H=(b4,BK 2 (iv (fun i=>(fun i=>m0 (12 + i)) ((x25.toNat * 2) + i))) 42)::((b1,BK 28 (iv m0) 45)::([]))) hx2 ⟨[(1,.pointer (some ⟨b1,0,none⟩)),(4,.pointer (some ⟨b4,0,none⟩)),(24,AI 16 (fun i=>m0 (12 + i))),(25,iI x25),(48,.slice (some ⟨b1,12,none⟩) x25.toNat 8),(49,iI (x25.toNat : Int)),(50,iI 0)],(b4,_)::((b1,_)::([])),(sl rfl),fun _ h=>h,⟨rfl,rfl⟩⟩ ?_ ?_
        ·rintro x50 o _ _ ⟨rfl,rfl⟩ hb; have h : path_l2 m0 x25 x50 o := hb
         clear hb; unfold path_l2 at h; refine wS (xQ rfl (o_lss rfl rfl) (nS (xw_seq (wd rfl h (fun hp12 h=>?_) fun hp12 h=>?_))))
         ·refine xw_skip (xq_then (xw_seq (xw_block (wS ?_)))); obtain ⟨ho13,h⟩ := h; refine xQ rfl (o_ixs el173 rfl rfl ho13 rfl) (xQ rfl (o_ldSI rfl ts42 (mT mH) (by have := ho11; have := ho13; omega) (fun _ _=>rfl)) (xr rfl (o_alloc ze42 rfl) ?_)); rintro _ _ ⟨b6,hb6,rfl,rfl⟩; refine xZ rfl (o_stWI rfl rfl ts42 mH (.here _ _ _ _)) (nR (xQ rfl (o_fa0 fl42_0 rfl) (xQ rfl (o_ldI (v := m0 (12 + (x50.toNat * 2))) rfl ts3 mH (by omega) rfl) (xQ rfl (o_fa0 fl42_0 rfl) (xQ rfl (o_ldI (v := m0 (12 + (x25.toNat * 2))) rfl ts3 (mT mH) (by omega) rfl) (xQ rfl (o_eql rfl rfl) (nS (wd rfl h (fun hp14 h=>?_) fun hp14 h=>?_))))))))
          ·exact wS (va rfl (nS (xw_ret (xq_blk_ret (xq_then_ret (xq_out (r := (.inr () : (Unit) ⊕ (Unit))) (e' := [(2,.bool false)]) ((b4,_)::((b1,_)::([]))) (sl rfl) (Kp.st (Kp.new hb6 (Kp.keep (Kp.keep Kp.nil)))) h (by intro hh; cases hh) ⟨rfl,rfl,rfl⟩))))))
          ·refine xw_skip (xq_blk 3 (xq_then (xw_region ?_))); obtain ⟨ho15,h⟩ := h; exact xQ rfl (o_add rfl rfl rfl ho15) (vm rfl (xo_nil (xq_next (s' := (x50 + 1 : Int)) (e' := [(1,.pointer (some ⟨b1,0,none⟩)),(4,.pointer (some ⟨b4,0,none⟩)),(24,AI 16 (fun i=>m0 (12 + i))),(25,iI x25),(48,.slice (some ⟨b1,12,none⟩) x25.toNat 8),(49,iI (x25.toNat : Int)),(50,iI (x50 + 1))]) ((b4,_)::((b1,_)::([]))) (sl rfl) (Kp.st (Kp.new hb6 (Kp.keep (Kp.keep Kp.nil)))) h ⟨rfl,rfl⟩)))
         ·exact xw_exit (xq_then_exit (xq_out (r := (.inl () : (Unit) ⊕ (Unit))) (e' := [(1,.pointer (some ⟨b1,0,none⟩)),(24,AI 16 (fun i=>m0 (12 + i))),(25,iI x25)]) ((b4,_)::((b1,_)::([]))) (sl rfl) (fun _ h=>h) h (by intro hh; cases hh) ⟨rfl,rfl,rfl⟩))
        ·rcases x2 with _ | x2
         ·rintro _ _ _ ⟨rfl,rfl,rfl⟩; replace h : path_k2a x25 o := h; unfold path_k2a at h; refine xq_blk_eq (xq_blk 1 (xq_then (xw_region ?_))); obtain ⟨ho16,h⟩ := h; exact xQ rfl (o_add rfl rfl rfl ho16) (vm rfl (xo_nil (xq_next (s' := (x25 + 1 : Int)) (e' := [(1,.pointer (some ⟨b1,0,none⟩)),(24,AI 16 (fun i=>m0 (12 + i))),(25,iI (x25 + 1))]) ((b1,_)::([])) (sl rfl) (Kp.st (Kp.new hb4 (Kp.keep Kp.nil))) h ⟨rfl,rfl⟩)))
         cases x2
         rintro _ _ _ ⟨rfl,rfl,rfl⟩; replace h : path_k2b o := h; unfold path_k2b at h; exact xq_blk_ret (xq_blk_ret (xq_then_ret (xq_out (r := (.inr () : (Unit) ⊕ (Unit))) (e' := [(2,.bool false)]) ((b1,_)::([])) (sl rfl) (Kp.st (Kp.new hb4 (Kp.keep Kp.nil))) h (by intro hh; cases hh) ⟨rfl,rfl,rfl⟩)))
    ·exact xw_exit (xq_then_exit (xq_out (r := (.inl () : (Unit) ⊕ (Unit))) (e' := []) ((b1,_)::([])) (sl rfl) (fun _ h=>h) h (by intro hh; cases hh) ⟨rfl,rfl,rfl⟩))
   ·rcases x1 with _ | x1
    ·rintro _ _ _ ⟨rfl,rfl,rfl⟩; replace h : path_k1a r := h; unfold path_k1a at h; refine xq_blk_eq (xq_then (wS (va rfl (nS (xw_ret ?_))))); subst h
     exact yA Tryz.results139 rfl [] (Kp.st (Kp.new hb1 Kp.nil)) (⟨rfl,rfl⟩)
    cases x1
    rintro _ _ _ ⟨rfl,rfl,rfl⟩; replace h : path_k1b r := h; unfold path_k1b at h; refine xq_blk_ret (xq_then_ret ?_); subst h
    exact yA Tryz.results139 rfl [] (Kp.st (Kp.new hb1 Kp.nil)) (⟨rfl,rfl⟩)
end Go.Proofs.YtljklmlodfbdnaaGreat
namespace Go.Proofs.YtljklmlodfbdnaaGreat
open Go Go.E
theorem may_con (m0 : NI) (p0 : Nat) (w : World) (hC : Has w (cat [[(p0,BK 28 (iv m0) 45)]])) (r : Bool × NI) (h : may_S m0 r) : Con Tryz.prog 104 #[.pointer (some ⟨p0,0,none⟩)] w (CatG fun v Ls=>Cov w (cat [[(p0,BK 28 (iv m0) 45)]]) (cat Ls)∧v=.bool r.1∧Ls=[[(p0,BK 28 (iv r.2) 45)]]) := by
 unfold may_S at h; refine ce Tryz.func104 rfl Tryz.ntmps104 rfl (xhs hC ((p0,_)::([])) rfl (wS (va rfl (nR (va rfl (nS (xw_seq (xw_seq ?_)))))))); refine xw_region (vm rfl (vp rfl (xQ rfl (o_fa0 fl45_0 rfl) (xQ rfl (o_ldI (v := m0 0) rfl ts3 mH (by omega) rfl) (nS (xw_block (xw_seq (xw_block (xw_seq (xw_block (xw_seq (xw_block ?_)))))))))))); refine xw_seq (xw_block (xw_seq (xw_block (xw_seq (xw_block (xw_seq (xw_block (xw_seq (xw_seq (xw_seq (wS (xQ rfl (o_eql rfl rfl) ?_)))))))))))); refine va rfl (nS (wk [0,3,7] rfl [(8,.bool ((decide (m0 0=1)) || (decide (m0 0=2))))] ?_ ?_))
 ·refine wd' rfl (fun hp1=>?_) fun hp1=>?_
  ·exact xw_skip (qk rfl (by simp [hp1]) rfl)
  ·exact xw_region (xQ rfl (o_eql rfl rfl) (va rfl (xo_nil (qk rfl (by simp [hp1]) rfl))))
 ·refine xq_then (wb rfl h (fun hp2 h=>?_) fun hp2 h=>?_)
  ·refine xw_exit (xq_then_exit (xq_then_exit (xq_blk_eq (xq_then (xw_seq (xw_seq (wk [0] rfl [(3,.bool (((((resOk_F (fun i=>m0 (5 + i)))) && ((inn_F (m0 7) 1 4))) && ((inn_F (m0 4) 1 1048576))) && ((tx_F (m0 3)))))] ?_ ?_)))))))
   ·refine xw_region (vm rfl (vp rfl (xQ rfl (o_fa0 fl45_5 rfl) (xQ rfl (o_ldSI rfl ts39 mH (by omega) (fun _ _=>rfl)) (xc rfl kf93 rfl (fun w1 hw1=>resOk_con _ w1 _ (resOk_ok _)) (vm rfl (ob' 30 rfl (fun hp3=>?_) fun hp3=>?_)))))))
    ·refine vm rfl (vp rfl (xQ rfl (o_fa0 fl45_6 rfl) (xQ rfl (o_ldI (v := m0 7) rfl ts40 mH (by omega) rfl) (xc rfl kf137 rfl (fun w1 hw1=>inn_con _ _ _ w1 _ (inn_ok _ _ _)) (vt rfl (vm rfl (ob' 37 rfl (fun hp4=>?_) fun hp4=>?_)))))))
     ·refine vm rfl (vp rfl (xQ rfl (o_fa0 fl45_4 rfl) (xQ rfl (o_ldI (v := m0 4) rfl ts3 mH (by omega) rfl) (xc rfl kf137 rfl (fun w1 hw1=>inn_con _ _ _ w1 _ (inn_ok _ _ _)) (vt rfl (vm rfl (ob' 44 rfl (fun hp5=>?_) fun hp5=>?_)))))))
      ·exact vm rfl (vp rfl (xQ rfl (o_fa0 fl45_3 rfl) (xQ rfl (o_ldI (v := m0 3) rfl ts3 mH (by omega) rfl) (xc rfl kf138 rfl (fun w1 hw1=>tx_con _ w1 _ (tx_ok _)) (vt rfl (va rfl (xo_nil (qk rfl (by simp [hp2,hp3,hp4,hp5]) rfl))))))))
      ·exact vs rfl (vs rfl (vs rfl (vs rfl (vs rfl (vf rfl (va rfl (xo_nil (qk rfl (by simp [hp2,hp3,hp4,hp5]) rfl))))))))
     ·refine vs rfl (vs rfl (vs rfl (vs rfl (vs rfl (vf rfl (vm rfl (vs rfl (vs rfl (vs rfl (vs rfl (vs rfl (vf rfl (va rfl ?_))))))))))))); exact xo_nil (qk rfl (by simp [hp2,hp3,hp4]) rfl)
    ·refine vs rfl (vs rfl (vs rfl (vs rfl (vs rfl (vf rfl (vm rfl (vs rfl (vs rfl (vs rfl (vs rfl (vs rfl (vf rfl (vm rfl ?_))))))))))))); exact vs rfl (vs rfl (vs rfl (vs rfl (vs rfl (vf rfl (va rfl (xo_nil (qk rfl (by simp [hp2,hp3]) rfl))))))))
   ·refine xq_then (xw_region (vm rfl (vm rfl (vm rfl (vm rfl (xQ rfl (o_build fk39 ze39 (.nil _)) (vp rfl (xQ rfl (o_fa0 fl45_5 rfl) (xZ rfl (o_stSI rfl rfl ts39 mH (by omega) (.here _ _ _ _)) (vp rfl (xQ rfl (o_fa0 fl45_6 rfl) (xZ rfl (o_stI rfl rfl ts40 mH (by omega) (.here _ _ _ _)) (vp rfl ?_))))))))))))); refine xQ rfl (o_fa0 fl45_4 rfl) (xZ rfl (o_stI rfl rfl ts3 mH (by omega) (.here _ _ _ _)) (vp rfl (xQ rfl (o_fa0 fl45_3 rfl) (xZ rfl (o_stI rfl rfl ts3 mH (by omega) (.here _ _ _ _)) (nS (xw_exit (xq_blk_ne rfl (xq_then_exit (xq_blk_ne rfl (xq_then_exit (xq_blk_ne rfl (xq_then_exit ?_)))))))))))); refine xq_blk_ne rfl (xq_then_exit (xq_blk_ne rfl (xq_then_exit (xq_blk_ne rfl (xq_then_exit (xq_blk_eq (xq_then (wS (vm rfl (va rfl (nS ?_))))))))))); refine xw_ret ?_; subst h
    exact rO Tryz.results104 rfl (⟨[[(p0,_)]],rfl,(Cov.cons Cov.nil),rfl,rfl⟩)
  ·refine xw_skip (xq_then (xw_seq (wS (xQ rfl (o_eql rfl rfl) (va rfl (nS (wd rfl h (fun hp6 h=>?_) fun hp6 h=>?_)))))))
   ·refine xw_exit (xq_then_exit (xq_then_exit (xq_blk_ne rfl (xq_then_exit (xq_blk_eq (xq_then (xw_seq (wk [0] rfl [(3,.bool (((inn_F (m0 4) 1 1048576)) && ((inn_F (m0 8) 1 15))))] ?_ ?_))))))))
    ·refine xw_region (vm rfl (vp rfl (xQ rfl (o_fa0 fl45_4 rfl) (xQ rfl (o_ldI (v := m0 4) rfl ts3 mH (by omega) rfl) (xc rfl kf137 rfl (fun w1 hw1=>inn_con _ _ _ w1 _ (inn_ok _ _ _)) (vm rfl (ob' 69 rfl (fun hp7=>?_) fun hp7=>?_)))))))
     ·exact vm rfl (vp rfl (xQ rfl (o_fa0 fl45_7 rfl) (xQ rfl (o_ldI (v := m0 8) rfl ts3 mH (by omega) rfl) (xc rfl kf137 rfl (fun w1 hw1=>inn_con _ _ _ w1 _ (inn_ok _ _ _)) (vt rfl (va rfl (xo_nil (qk rfl (by simp [hp2,hp6,hp7]) rfl))))))))
     ·exact vs rfl (vs rfl (vs rfl (vs rfl (vs rfl (vf rfl (va rfl (xo_nil (qk rfl (by simp [hp2,hp6,hp7]) rfl))))))))
    ·refine xq_then (xw_region (vm rfl (vm rfl (vp rfl (xQ rfl (o_fa0 fl45_4 rfl) (xZ rfl (o_stI rfl rfl ts3 mH (by omega) (.here _ _ _ _)) (vp rfl (xQ rfl (o_fa0 fl45_7 rfl) (xZ rfl (o_stI rfl rfl ts3 mH (by omega) (.here _ _ _ _)) (xo_nil (xq_blk 3 (xq_then (xw_seq ?_))))))))))))); refine wk [0] rfl [(3,.bool ((((inn_F (m0 4) 1 1048576)) && ((inn_F (m0 8) 1 15))) && ((inn_F 0 0 1))))] ?_ ?_
     ·refine xw_region (vm rfl (vm rfl (ob' 83 rfl (fun hp8=>?_) fun hp8=>?_)))
      ·exact vm rfl (vp rfl (xQ rfl (o_fa0 fl45_7 rfl) (xQ rfl (o_ldI (v := 0) rfl ts3 mH (by omega) rfl) (xc rfl kf137 rfl (fun w1 hw1=>inn_con _ _ _ w1 _ (inn_ok _ _ _)) (vt rfl (va rfl (xo_nil (qk rfl (by simp [hp2,hp6,hp8]) rfl))))))))
      ·exact vs rfl (vs rfl (vs rfl (vs rfl (vs rfl (vf rfl (va rfl (xo_nil (qk rfl (by simp [hp2,hp6,hp8]) rfl))))))))
     ·refine xq_then (xw_region (vm rfl (vp rfl (xQ rfl (o_fa0 fl45_7 rfl) (xZ rfl (o_stI rfl rfl ts3 mH (by omega) (.here _ _ _ _)) (xo_nil (xq_blk 4 (xq_then (xw_seq (xw_seq (wk [0] rfl [(3,.bool (((((inn_F (m0 4) 1 1048576)) && ((inn_F (m0 8) 1 15))) && ((inn_F 0 0 1))) && ((tx_F (m0 3)))))] ?_ ?_)))))))))))
      ·refine xw_region (vm rfl (vm rfl (ob' 94 rfl (fun hp9=>?_) fun hp9=>?_)))
       ·exact vm rfl (vp rfl (xQ rfl (o_fa0 fl45_3 rfl) (xQ rfl (o_ldI (v := m0 3) rfl ts3 mH (by omega) rfl) (xc rfl kf138 rfl (fun w1 hw1=>tx_con _ w1 _ (tx_ok _)) (vt rfl (va rfl (xo_nil (qk rfl (by simp [hp2,hp6,hp9]) rfl))))))))
       ·exact vs rfl (vs rfl (vs rfl (vs rfl (vs rfl (vf rfl (va rfl (xo_nil (qk rfl (by simp [hp2,hp6,hp9]) rfl))))))))
      ·refine xq_then (xw_region (vm rfl (vp rfl (xQ rfl (o_fa0 fl45_3 rfl) (xZ rfl (o_stI rfl rfl ts3 mH (by omega) (.here _ _ _ _)) (nS (xw_exit (xq_blk_ne rfl (xq_then_exit (xq_blk_ne rfl (xq_then_exit (xq_blk_ne rfl ?_)))))))))))); refine xq_then_exit (xq_blk_eq (xq_then (wS (vm rfl (va rfl (nS (xw_ret ?_))))))); subst h
       exact rO Tryz.results104 rfl (⟨[[(p0,_)]],rfl,(Cov.cons Cov.nil),rfl,rfl⟩)
   ·refine xw_skip (xq_then (xw_seq (xw_seq (wS (xQ rfl (o_eql rfl rfl) (va rfl (nS (wk [0,3,7] rfl [(13,.bool ((decide (m0 0=5)) || (decide (m0 0=6))))] ?_ ?_))))))))
    ·refine wd' rfl (fun hp10=>?_) fun hp10=>?_
     ·exact xw_skip (qk rfl (by simp [hp2,hp6,hp10]) rfl)
     ·exact xw_region (xQ rfl (o_eql rfl rfl) (va rfl (xo_nil (qk rfl (by simp [hp2,hp6,hp10]) rfl))))
    ·refine xq_then (wb rfl h (fun hp11 h=>?_) fun hp11 h=>?_)
     ·refine xw_exit (xq_then_exit (xq_then_exit (xq_blk_ne rfl (xq_then_exit (xq_blk_ne rfl (xq_then_exit (xq_blk_eq (xq_then (xw_seq (wk [0] rfl [(3,.bool ((inn_F (m0 8) 0 1)))] ?_ ?_))))))))))
      ·exact xw_region (vm rfl (vm rfl (vm rfl (vp rfl (xQ rfl (o_fa0 fl45_7 rfl) (xQ rfl (o_ldI (v := m0 8) rfl ts3 mH (by omega) rfl) (xc rfl kf137 rfl (fun w1 hw1=>inn_con _ _ _ w1 _ (inn_ok _ _ _)) (vt rfl (va rfl (xo_nil (qk rfl (by simp [hp2,hp6,hp11]) rfl)))))))))))
      ·refine xq_then (xw_region (vm rfl (vp rfl (xQ rfl (o_fa0 fl45_7 rfl) (xZ rfl (o_stI rfl rfl ts3 mH (by omega) (.here _ _ _ _)) (xo_nil (xq_blk 4 (xq_then (xw_seq (xw_seq (wk [0] rfl [(3,.bool (((inn_F (m0 8) 0 1)) && ((tx_F (m0 3)))))] ?_ ?_)))))))))))
       ·refine xw_region (vm rfl (vm rfl (ob' 94 rfl (fun hp12=>?_) fun hp12=>?_)))
        ·exact vm rfl (vp rfl (xQ rfl (o_fa0 fl45_3 rfl) (xQ rfl (o_ldI (v := m0 3) rfl ts3 mH (by omega) rfl) (xc rfl kf138 rfl (fun w1 hw1=>tx_con _ w1 _ (tx_ok _)) (vt rfl (va rfl (xo_nil (qk rfl (by simp [hp2,hp6,hp11,hp12]) rfl))))))))
        ·exact vs rfl (vs rfl (vs rfl (vs rfl (vs rfl (vf rfl (va rfl (xo_nil (qk rfl (by simp [hp2,hp6,hp11,hp12]) rfl))))))))
       ·refine xq_then (xw_region (vm rfl (vp rfl (xQ rfl (o_fa0 fl45_3 rfl) (xZ rfl (o_stI rfl rfl ts3 mH (by omega) (.here _ _ _ _)) (nS (xw_exit (xq_blk_ne rfl (xq_then_exit (xq_blk_ne rfl (xq_then_exit (xq_blk_ne rfl ?_)))))))))))); refine xq_then_exit (xq_blk_eq (xq_then (wS (vm rfl (va rfl (nS (xw_ret ?_))))))); subst h
        exact rO Tryz.results104 rfl (⟨[[(p0,_)]],rfl,(Cov.cons Cov.nil),rfl,rfl⟩)
     ·refine xw_skip (xq_then (xw_seq (xw_seq (wS (xQ rfl (o_eql rfl rfl) (va rfl (nS (wk [0,3,7] rfl [(16,.bool ((decide (m0 0=4)) || ((decide (m0 0=7)) || ((decide (m0 0=8)) || (decide (m0 0=9))))))] ?_ ?_))))))))
      ·refine wd' rfl (fun hp13=>?_) fun hp13=>?_
       ·exact xw_skip (qk rfl (by simp [hp2,hp6,hp11,hp13]) rfl)
       ·refine wS (xQ rfl (o_eql rfl rfl) (va rfl (nS (wk [0,3,7] rfl [(16,.bool ((decide (m0 0=7)) || ((decide (m0 0=8)) || (decide (m0 0=9)))))] ?_ ?_))))
        ·refine wd' rfl (fun hp14=>?_) fun hp14=>?_
         ·exact xw_skip (qk rfl (by simp [hp2,hp6,hp11,hp13,hp14]) rfl)
         ·refine wS (xQ rfl (o_eql rfl rfl) (va rfl (nS (wk [0,3,7] rfl [(16,.bool ((decide (m0 0=8)) || (decide (m0 0=9))))] ?_ ?_))))
          ·refine wd' rfl (fun hp15=>?_) fun hp15=>?_
           ·exact xw_skip (qk rfl (by simp [hp2,hp6,hp11,hp13,hp14,hp15]) rfl)
           ·exact xw_region (xQ rfl (o_eql rfl rfl) (va rfl (xo_nil (qk rfl (by simp [hp2,hp6,hp11,hp13,hp14,hp15]) rfl))))
          ·exact qk rfl (by simp [hp2,hp6,hp11,hp13,hp14]) rfl
        ·exact qk rfl (by simp [hp2,hp6,hp11,hp13]) rfl
      ·refine xq_then (wb rfl h (fun hp16 h=>?_) fun hp16 h=>?_)
       ·refine xw_exit (xq_then_exit (xq_then_exit (xq_blk_ne rfl (xq_then_exit (xq_blk_ne rfl (xq_then_exit (xq_blk_ne rfl (xq_then_exit (xq_blk_eq (xq_then (xw_seq (xw_seq (wk [0] rfl [(3,.bool ((tx_F (m0 3))))] ?_ ?_)))))))))))))
        ·exact xw_region (vm rfl (vm rfl (vm rfl (vp rfl (xQ rfl (o_fa0 fl45_3 rfl) (xQ rfl (o_ldI (v := m0 3) rfl ts3 mH (by omega) rfl) (xc rfl kf138 rfl (fun w1 hw1=>tx_con _ w1 _ (tx_ok _)) (vt rfl (va rfl (xo_nil (qk rfl (by simp [hp2,hp6,hp11,hp16]) rfl)))))))))))
        ·refine xq_then (xw_region (vm rfl (vp rfl (xQ rfl (o_fa0 fl45_3 rfl) (xZ rfl (o_stI rfl rfl ts3 mH (by omega) (.here _ _ _ _)) (nS (xw_exit (xq_blk_ne rfl (xq_then_exit (xq_blk_ne rfl (xq_then_exit (xq_blk_ne rfl ?_)))))))))))); refine xq_then_exit (xq_blk_eq (xq_then (wS (vm rfl (va rfl (nS (xw_ret ?_))))))); subst h
         exact rO Tryz.results104 rfl (⟨[[(p0,_)]],rfl,(Cov.cons Cov.nil),rfl,rfl⟩)
       ·refine xw_skip (xq_then (xw_seq (wS (xQ rfl (o_eql rfl rfl) (va rfl (nS (wd rfl h (fun hp17 h=>?_) fun hp17 h=>?_)))))))
        ·refine xw_exit (xq_then_exit (xq_then_exit (xq_blk_ne rfl (xq_then_exit (xq_blk_ne rfl (xq_then_exit (xq_blk_ne rfl (xq_then_exit (xq_blk_ne rfl (xq_then_exit (xq_blk_eq (xq_then (xw_seq ?_))))))))))))); refine xw_seq (wk [0] rfl [(3,.bool ((((tx_F (m0 3))) && ((tx_F (m0 9)))) && (decide (m0 9 < m0 3))))] ?_ ?_)
         ·refine xd_start (by kernel_rfl) (by kernel_rfl) (fun hok=>?_); refine xb hok 0 [0] rfl (by kernel_rfl) (fun _ hK=>o_mv rfl) (xb hok 1 [104] rfl (by kernel_rfl) (fun _ hK=>o_nilp rfl) (xb hok 2 [105] rfl (by kernel_rfl) (fun _ hK=>o_fa0 fl45_3 rfl) (xbr hok 3 [106] ((p0,_)::([])) (rsC mH rsN) rfl (by kernel_rfl) (fun _ hy hK=>o_ldI (v := m0 3) rfl ts3 (hy _ mH) (by omega) rfl) (xb hok 4 [107] rfl (by kernel_rfl) (fun _ hK=>o_callq kf138 rfl (fun w1 hw1=>tx_con _ w1 _ (tx_ok _))) (xb hok 5 [108] rfl (by kernel_rfl) (fun _ hK=>o_mv rfl) (db' 109 rfl (fun hp18=>?_) fun hp18=>?_))))))
          ·refine xb hok 6 [0,109] rfl (by kernel_rfl) (fun _ hK=>o_mv rfl) (xb hok 7 [110,109] rfl (by kernel_rfl) (fun _ hK=>o_nilp rfl) (xb hok 8 [111,109] rfl (by kernel_rfl) (fun _ hK=>o_fa0 fl45_8 rfl) (xbr hok 9 [112,109] ((p0,_)::([])) (rsC mH rsN) rfl (by kernel_rfl) (fun _ hy hK=>o_ldI (v := m0 9) rfl ts3 (hy _ mH) (by omega) rfl) (xb hok 10 [113,109] rfl (by kernel_rfl) (fun _ hK=>o_callq kf138 rfl (fun w1 hw1=>tx_con _ w1 _ (tx_ok _))) (xb hok 11 [109,114] rfl (by kernel_rfl) (fun _ hK=>o_pick_t rfl rfl) (xb hok 12 [115] rfl (by kernel_rfl) (fun _ hK=>o_mv rfl) (db' 116 rfl (fun hp19=>?_) fun hp19=>?_)))))))
           ·exact xb hok 13 [0,116] rfl (by kernel_rfl) (fun _ hK=>o_mv rfl) (xb hok 14 [117,116] rfl (by kernel_rfl) (fun _ hK=>o_nilp rfl) (xb hok 15 [118,116] rfl (by kernel_rfl) (fun _ hK=>o_fa0 fl45_8 rfl) (xbr hok 16 [119,116] ((p0,_)::([])) (rsC mH rsN) rfl (by kernel_rfl) (fun _ hy hK=>o_ldI (v := m0 9) rfl ts3 (hy _ mH) (by omega) rfl) (xb hok 17 [0,116] rfl (by kernel_rfl) (fun _ hK=>o_mv rfl) (xb hok 18 [121,116] rfl (by kernel_rfl) (fun _ hK=>o_nilp rfl) (xb hok 19 [122,116] rfl (by kernel_rfl) (fun _ hK=>o_fa0 fl45_3 rfl) (xbr hok 20 [123,116] ((p0,_)::([])) (rsC mH rsN) rfl (by kernel_rfl) (fun _ hy hK=>o_ldI (v := m0 3) rfl ts3 (hy _ mH) (by omega) rfl) (xb hok 21 [120,124,116] rfl (by kernel_rfl) (fun _ hK=>o_lss rfl rfl) (xb hok 22 [116,125] rfl (by kernel_rfl) (fun _ hK=>o_pick_t rfl rfl) (xb hok 23 [126] rfl (by kernel_rfl) (fun _ hK=>o_as rfl) (xd_end hok (by kernel_rfl) (qk rfl (by simp [hp2,hp6,hp11,hp16,hp17,hp18,hp19]) rfl))))))))))))
           ·exact xbs hok 13 [0,116] rfl (by kernel_rfl) (xbs hok 14 [117,116] rfl (by kernel_rfl) (xbs hok 15 [118,116] rfl (by kernel_rfl) (xbs hok 16 [119,116] rfl (by kernel_rfl) (xbs hok 17 [0,116] rfl (by kernel_rfl) (xbs hok 18 [121,116] rfl (by kernel_rfl) (xbs hok 19 [122,116] rfl (by kernel_rfl) (xbs hok 20 [123,116] rfl (by kernel_rfl) (xbs hok 21 [120,124,116] rfl (by kernel_rfl) (xb hok 22 [116,125] rfl (by kernel_rfl) (fun _ hK=>o_pick_f rfl rfl) (xb hok 23 [126] rfl (by kernel_rfl) (fun _ hK=>o_as rfl) (xd_end hok (by kernel_rfl) (qk rfl (by simp [hp2,hp6,hp11,hp16,hp17,hp18,hp19]) rfl))))))))))))
          ·refine xbs hok 6 [0,109] rfl (by kernel_rfl) (xbs hok 7 [110,109] rfl (by kernel_rfl) (xbs hok 8 [111,109] rfl (by kernel_rfl) (xbs hok 9 [112,109] rfl (by kernel_rfl) (xbs hok 10 [113,109] rfl (by kernel_rfl) (xb hok 11 [109,114] rfl (by kernel_rfl) (fun _ hK=>o_pick_f rfl rfl) (xb hok 12 [115] rfl (by kernel_rfl) (fun _ hK=>o_mv rfl) (xbs hok 13 [0,116] rfl (by kernel_rfl) (xbs hok 14 [117,116] rfl (by kernel_rfl) (xbs hok 15 [118,116] rfl (by kernel_rfl) (xbs hok 16 [119,116] rfl (by kernel_rfl) (xbs hok 17 [0,116] rfl (by kernel_rfl) (xbs hok 18 [121,116] rfl (by kernel_rfl) (xbs hok 19 [122,116] rfl (by kernel_rfl) ?_))))))))))))); exact xbs hok 20 [123,116] rfl (by kernel_rfl) (xbs hok 21 [120,124,116] rfl (by kernel_rfl) (xb hok 22 [116,125] rfl (by kernel_rfl) (fun _ hK=>o_pick_f rfl rfl) (xb hok 23 [126] rfl (by kernel_rfl) (fun _ hK=>o_as rfl) (xd_end hok (by kernel_rfl) (qk rfl (by simp [hp2,hp6,hp11,hp16,hp17,hp18]) rfl)))))
         ·refine xq_then (xw_region (vm rfl (vm rfl (vp rfl (xQ rfl (o_fa0 fl45_3 rfl) (xZ rfl (o_stI rfl rfl ts3 mH (by omega) (.here _ _ _ _)) (vp rfl (xQ rfl (o_fa0 fl45_8 rfl) (xZ rfl (o_stI rfl rfl ts3 mH (by omega) (.here _ _ _ _)) (nS (xw_exit (xq_blk_ne rfl ?_)))))))))))); refine xq_then_exit (xq_blk_ne rfl (xq_then_exit (xq_blk_eq (xq_then (wS (vm rfl (va rfl (nS (xw_ret ?_))))))))); subst h
          exact rO Tryz.results104 rfl (⟨[[(p0,_)]],rfl,(Cov.cons Cov.nil),rfl,rfl⟩)
        ·refine xw_skip (xq_then (wS (xQ rfl (o_eql rfl rfl) (va rfl (nS (wd rfl h (fun hp20 h=>?_) fun hp20 h=>?_))))))
         ·refine xw_exit (xq_then_exit (xq_blk_ne rfl (xq_then_exit (xq_blk_ne rfl (xq_then_exit (xq_blk_ne rfl (xq_then_exit (xq_blk_ne rfl (xq_then_exit (xq_blk_ne rfl (xq_then_exit (xq_blk_eq (xq_then ?_))))))))))))); refine xw_seq (wS (vm rfl (vp rfl (xQ rfl (o_ldW rfl ts45 mH) (xc rfl kf139 rfl (fun w1 hw1=>path_con _ w1 _ (path_ok _)) (va rfl (nS (xw_region (vm rfl (vm rfl (vm rfl ?_))))))))))); refine vm rfl (xQ rfl (o_bldA ea43 ze43) (vp rfl (xQ rfl (o_fa0 fl45_10 rfl) (xZ rfl (o_stI rfl rfl ts3 mH (by omega) (.here _ _ _ _)) (vp rfl (xQ rfl (o_fa0 fl45_8 rfl) (xZ rfl (o_stI rfl rfl ts3 mH (by omega) (.here _ _ _ _)) (vp rfl (xQ rfl (o_fa0 fl45_9 rfl) (xZ rfl (o_stI rfl rfl ts3 mH (by omega) (.here _ _ _ _)) (vp rfl (xQ rfl (o_fa0 fl45_11 rfl) (xZ rfl (o_stSI rfl rfl ts43 mH (by omega) (.here _ _ _ _)) ?_))))))))))))); refine nS (xw_exit (xq_blk_ne rfl (xq_then_exit (xq_blk_eq (xq_then (wS (vm rfl (va rfl (nS (xw_ret ?_)))))))))); subst h
          exact rO Tryz.results104 rfl (⟨[[(p0,_)]],rfl,(Cov.cons Cov.nil),rfl,rfl⟩)
         ·refine xw_skip (xq_then (xw_exit (xq_blk_ne rfl (xq_then_exit (xq_blk_ne rfl (xq_then_exit (xq_blk_ne rfl (xq_then_exit (xq_blk_ne rfl (xq_then_exit (xq_blk_ne rfl (xq_then_exit (xq_blk_ne rfl ?_))))))))))))); refine xq_then_exit (xq_blk_eq (xq_then (xw_seq (wS (va rfl (nS (xw_ret (xq_then_ret (xq_blk_ret (xq_then_ret ?_)))))))))); subst h
          exact rO Tryz.results104 rfl (⟨[[(p0,_)]],rfl,(Cov.cons Cov.nil),rfl,rfl⟩)
theorem msgOk_con (m0 : NI) (w : World) (r : Int) (h : msgOk_S m0 r) : Con Tryz.prog 55 #[AI 28 m0] w (Is (errV 86 r) []) := by
 unfold msgOk_S at h; refine ce Tryz.func55 rfl Tryz.ntmps55 rfl (wS (xr rfl (o_boxA rfl) ?_)); rintro _ _ ⟨b1,hb1,rfl,rfl⟩; refine va rfl (nR (xQ rfl (o_ldW rfl ts45 mH) (xr rfl (o_alloc ze45 rfl) ?_))); rintro _ _ ⟨b3,hb3,rfl,rfl⟩; refine xZ rfl (o_stWI rfl rfl ts45 mH (.here _ _ _ _)) (nS (xw_seq (wS (xQ rfl (o_ldW rfl ts45 (mT mH)) (xc rfl kf103 rfl (fun w1 hw1=>ends_con _ w1 _ (ends_ok _)) (xQ rfl (o_not rfl) (vm rfl (oc 8 rfl h (fun hp1 h=>?_) fun hp1 h=>?_))))))))
 ·refine vs rfl (vs rfl (vt rfl (vm rfl (vs rfl (vs rfl (vs rfl (vs rfl (vs rfl (vs rfl (vs rfl (vs rfl (vs rfl (vt rfl ?_))))))))))))); refine nS (xw_cond_t rfl rfl (wS (xQ rfl (o_mki rfl Tryz.underlying86 rfl) (va rfl (nS (xw_ret (xq_then_ret ?_))))))); subst h
  exact yA Tryz.results55 rfl [] (Kp.st (Kp.new hb3 (Kp.new hb1 Kp.nil))) (⟨rfl,rfl⟩)
 ·refine xr rfl (OT.st (fun _ h=>h) (ot_callF (Cs := [[(b3,_)]]) (Rs := [[(b1,_)]]) kf104 rfl (fun w1 hw1=>may_con _ _ w1 (St.hasC hw1) _ (may_ok _)) (fun _ _ _ h=>h.1))) ?_; rintro _ _ ⟨w1,_,rfl,hle,-,rfl,rfl⟩; refine xo_st ((b3,_)::((b1,_)::([]))) (fun _ h=>h) (xQ rfl (o_not rfl) (vf rfl (vm rfl (oc 12 rfl h (fun hp4 h=>?_) fun hp4 h=>?_))))
  ·refine vs rfl (vs rfl (vs rfl (vs rfl (vs rfl (vs rfl (vs rfl (vs rfl (vs rfl (vt rfl (nS (xw_cond_t rfl rfl (xw_seq ?_)))))))))))); refine xw_region (xQ rfl (o_mki rfl Tryz.underlying86 rfl) (va rfl (nS (xw_ret (xq_then_ret ?_))))); subst h
   exact yA Tryz.results55 rfl [] (Kp.st (Kp.new hb3 (Kp.new hb1 Kp.nil))) (⟨rfl,rfl⟩)
  ·refine xQ rfl (o_ldW rfl ts45 mH) (xQ rfl (o_fa0 fl45_0 rfl) (xQ rfl (o_ldI (v := m0 0) rfl ts3 (mT mH) (by omega) rfl) (xQ rfl (o_fa0 fl45_1 rfl) (xQ rfl (o_ldI (v := m0 1) rfl ts3 (mT mH) (by omega) rfl) (xQ rfl (o_fa0 fl45_2 rfl) (xQ rfl (o_ldI (v := m0 2) rfl ts3 (mT mH) (by omega) rfl) (xQ rfl (o_build fk45 ze45 (.int fl45_0 rfl rfl (.int fl45_1 rfl rfl (.int fl45_2 rfl rfl (.nil _))))) (xQ rfl (o_neqA eq45 rfl rfl) (vf rfl (nS (wc rfl h (fun hp5 h=>?_) fun hp5 h=>?_)))))))))))
   ·refine wS (xQ rfl (o_mki rfl Tryz.underlying86 rfl) (va rfl (nS (xw_ret (xq_then_ret ?_))))); subst h
    exact yA Tryz.results55 rfl [] (Kp.st (Kp.new hb3 (Kp.new hb1 Kp.nil))) (⟨rfl,rfl⟩)
   ·refine xw_skip (xq_then (wS (va rfl (nS (xw_ret ?_))))); subst h
    exact yA Tryz.results55 rfl [] (Kp.st (Kp.new hb3 (Kp.new hb1 Kp.nil))) (⟨rfl,rfl⟩)
end Go.Proofs.YtljklmlodfbdnaaGreat
namespace Go.Proofs.YtljklmlodfbdnaaGreat
open Go Go.E Go.RowKit Go.Extern.Stop Go.Stop Go.Extern
theorem run_equalIn_iface_int {P : Program} (w : World) (d : Nat) {ti tn : TypeId} {ms : Array (String × TypeId)} {i : TypeInfo} {k : IntKind} (a b : Int)
  (hi : P.underlying ti=some (.interface ms)) (hn : P.underlying tn=some (.int k)) (hinfo : P.info? tn=some i) (hcomp : i.comparable=true) :
  (Op.equalIn (d + 2) ti (.iface tn (.int k a)) (.iface tn (.int k b))).run P w=.ok (a == b) w := by
 simp [Op.equalIn,run_underlying hi,run_underlying hn,typeInfo,hinfo,hcomp]
theorem run_eql_iface_int {P : Program} (w : World) {ti tn : TypeId} {ms : Array (String × TypeId)} {i : TypeInfo} {k : IntKind} (a b : Int)
  (hi : P.underlying ti=some (.interface ms)) (hn : P.underlying tn=some (.int k)) (hinfo : P.info? tn=some i) (hcomp : i.comparable=true) :
  (binOp .eql ti (.iface tn (.int k a)) (.iface tn (.int k b))).run P w=.ok (.bool (a == b)) w := by
 simp only [binOp]
 simp [Op.equal,Op.maxDepth,run_equalIn_iface_int w 9998 a b hi hn hinfo hcomp]
theorem isTypeOf (v : Value) (w : World) : (Extern.ReflectliteType.typeOf #[.iface 86 v]).run Tryz.prog w=.ok (.iface 182 (.agg #[.pointer (some ⟨0,86,none⟩)])) w := by kernel_rfl
def cmpFn : Array Value → Sem Value := Extern.ReflectliteType.method fun t => do Rtype.noPackHeld "Comparable" t; pure (.bool (← typeInfo t).comparable)
theorem isComparable (w : World) : (cmpFn #[.agg #[.pointer (some ⟨0,86,none⟩)]]).run Tryz.prog w=.ok (.bool true) w := by kernel_rfl
theorem isMethodComparable (v : Value) (w : World) : (Go.method 371 182 v "Comparable").run Tryz.prog w = .ok (197, v) w := by kernel_rfl
theorem isComp : (Tryz.prog.info? 86).map (·.comparable)=some true := by kernel_rfl
theorem noIsE (v : Value) (xT : TypeId) (w : World) : (Instr.typeAssert (.iface 86 v) xT 184 true).run Tryz.prog w=.ok (.tuple #[.nilIface,.bool false]) w := run_typeAssert_lacksB Tryz.underlying184 (by kernel_rfl) (by kernel_rfl) v xT w
theorem noUnwrapE (v : Value) (xT : TypeId) (w : World) : (Instr.typeAssert (.iface 86 v) xT 187 true).run Tryz.prog w=.ok (.tuple #[.nilIface,.bool false]) w := run_typeAssert_lacksB Tryz.underlying187 (by kernel_rfl) (by kernel_rfl) v xT w
theorem noUnwrapsE (v : Value) (xT : TypeId) (w : World) : (Instr.typeAssert (.iface 86 v) xT 189 true).run Tryz.prog w=.ok (.tuple #[.nilIface,.bool false]) w := run_typeAssert_lacksB Tryz.underlying189 (by kernel_rfl) (by kernel_rfl) v xT w
theorem is_errno (a b : Int) (w : World) : Calls Tryz.prog 33 #[.iface 86 (.int .i64 a),.iface 86 (.int .i64 b)] w fun e w' => e=.returned (.bool (decide (a=b)))∧w' = w := by
 obtain ⟨i,hi,hcmp⟩ := Option.map_eq_some_iff.1 isComp
 have h8 := @run_callFunc_extern Tryz.prog 70 _ Extern.ReflectliteType.typeOf Tryz.func70 (by kernel_rfl) (by kernel_rfl) (by kernel_rfl) (by kernel_rfl)
 have h32 := @run_callFunc_extern Tryz.prog 197 _ cmpFn Tryz.func197 (by kernel_rfl) (by kernel_rfl) (by kernel_rfl) (by kernel_rfl)
 have tT := isTypeOf
 have cT := isComparable
 have mR := isMethodComparable
 have nE := noIsE
 have uE := noUnwrapE
 have vE := noUnwrapsE
 by_cases hab : a=b
 ·subst hab
  have heq := run_eql_iface_int (P := Tryz.prog) w a a Tryz.underlying28 Tryz.underlying86 hi hcmp
  rw [show (a == a)=true from by simp] at heq
  go_enter Tryz.func33,Tryz.ntmps33
  go_wp2
  refine wp_loop_rounds 1 ?_
  rw [rounds_succ]
  go_wp2
  go_ret
  exact ⟨by simp,rfl⟩
 ·have heq := run_eql_iface_int (P := Tryz.prog) w a b Tryz.underlying28 Tryz.underlying86 hi hcmp
  rw [show (a == b)=false from by simpa using hab] at heq
  have hd : decide (a=b)=false := by simpa using hab
  rw [hd]
  have H : Hid (¬ a=b) := Lib.hid hab
  clear hab hd
  go_enter Tryz.func33,Tryz.ntmps33
  go_wp2
  refine wp_loop_rounds 1 ?_
  rw [rounds_succ]
  go_wp2
  go_ret
  exact ⟨rfl,rfl⟩
theorem is_nil (b : Int) (w : World) : Calls Tryz.prog 33 #[.nilIface,.iface 86 (.int .i64 b)] w fun e w' => e=.returned (.bool false)∧w' = w := by
 have hn := run_eql_iface_nil_left (P := Tryz.prog) w 86 (.int .i64 b) Tryz.underlying28
 go_enter Tryz.func33,Tryz.ntmps33
 go_wp2
 go_ret
 exact ⟨rfl,rfl⟩
theorem con_of_calls {P : Program} {f : FuncId} {args : Array Value} {w : World} {v : Value} (h : Calls P f args w fun e w' => e=.returned v∧w' = w) : Con P f args w (Is v []) :=
 Calls.mono h fun e w' ⟨h1,h2⟩=>⟨v,[],h1,by rw [h2]; exact St.refl w,rfl,rfl⟩
theorem errIs_c (a b : Int) (w : World) (hb : b ≠ 0) : Con Tryz.prog 33 #[errV 86 a,errV 86 b] w (Is (.bool (decide (a=b))) []) := by
 rw [show errV 86 b=.iface 86 (.int .i64 b) from if_neg hb]
 by_cases ha : a=0
 ·subst ha
  rw [show errV 86 0=.nilIface from rfl,show decide ((0 : Int)=b)=false from by simpa using fun e=>hb e.symm]
  exact con_of_calls (is_nil b w)
 ·rw [show errV 86 a=.iface 86 (.int .i64 a) from if_neg ha]
  exact con_of_calls (is_errno a b w)
end Go.Proofs.YtljklmlodfbdnaaGreat
namespace Go.Proofs.YtljklmlodfbdnaaGreat
open Go Go.E
theorem errIs_c2 (a b : Int) (w : World) (h : errIs_P a b) : Con Tryz.prog 33 #[errV 86 a, errV 86 b] w (Is (.bool (errIs_F a b)) []) := errIs_c a b w h
theorem code_con (e0 : Int) (w : World) (r : Int) (h : code_S e0 r) : Con Tryz.prog 13 #[errV 86 e0] w (Is (iI r) []) := by
  unfold code_S at h
  refine ce Tryz.func13 rfl Tryz.ntmps13 rfl (wS (va rfl (nS (xw_seq (wS (vm rfl (xQ rfl (o_eqE Tryz.underlying28 rfl (fun _ => rfl) rfl rfl) (nS (wd rfl h (fun hp1 h => ?_) fun hp1 h => ?_)))))))))
  · refine wS (va rfl (nS (xw_ret (xq_then_ret ?_))))
    subst h
    exact rO Tryz.results13 rfl (⟨rfl, rfl⟩)
  · refine xw_skip (xq_then (xw_seq (wS (va rfl (nS (xw_block ?_))))))
    obtain ⟨x1, hx1, h⟩ := h
    refine xw_wh (fun (i3 : Int) e H => e = [(0, errV 86 e0), (3, iI i3)] ∧ H = []) (fun x ex e H => match x with | .inl _ => ex = .exit 0 ∧ e = [] ∧ H = [] | .inr x2 => ex = .ret ∧ e = [(2, iI x2)] ∧ H = []) hx1 ⟨[(0, errV 86 e0), (3, iI 1)], [], (sl rfl), fun _ h => h, ⟨rfl, rfl⟩⟩ ?_ ?_
    · rintro i3 o _ _ ⟨rfl, rfl⟩ hb
      have h : code_l1 e0 i3 o := hb
      clear hb
      unfold code_l1 at h
      refine xw_seq (wS (vm rfl (xQ rfl (o_leq rfl rfl) (nS (wd rfl h (fun hp2 h => ?_) fun hp2 h => ?_)))))
      · refine xw_skip (xq_then (xw_seq (xw_block (wS (vm rfl (vm rfl ?_))))))
        obtain ⟨ho3, h⟩ := h
        refine xQ rfl (o_mkE rfl Tryz.underlying86 rfl ho3) ?_
        obtain ⟨ho4, h⟩ := h
        refine xc rfl kf33 rfl (fun w1 hw1 => errIs_c2 _ _ w1 ho4) (nS (wb rfl h (fun hp5 h => ?_) fun hp5 h => ?_))
        · exact wS (vm rfl (va rfl (nS (xw_ret (xq_blk_ret (xq_then_ret (xq_out (r := (.inr i3 : (Unit) ⊕ (Int))) (e' := [(2, iI i3)]) ([]) (sl rfl) (fun _ h => h) h (by intro hh; cases hh) ⟨rfl, rfl, rfl⟩)))))))
        · refine xw_skip (xq_blk 1 (xq_then (xw_region (vm rfl ?_))))
          obtain ⟨ho6, h⟩ := h
          exact xQ rfl (o_add rfl rfl rfl ho6) (va rfl (xo_nil (xq_next (s' := (i3 + 1 : Int)) (e' := [(0, errV 86 e0), (3, iI (i3 + 1))]) ([]) (sl rfl) (fun _ h => h) h ⟨rfl, rfl⟩)))
      · exact xw_exit (xq_then_exit (xq_out (r := (.inl () : (Unit) ⊕ (Int))) (e' := []) ([]) (sl rfl) (fun _ h => h) h (by intro hh; cases hh) ⟨rfl, rfl, rfl⟩))
    · rcases x1 with _ | x2
      · rintro _ _ _ ⟨rfl, rfl, rfl⟩
        replace h : code_k1a r := h
        unfold code_k1a at h
        refine xq_blk_eq (xq_then (wS (va rfl (nS (xw_ret ?_)))))
        subst h
        exact rO Tryz.results13 rfl (⟨rfl, rfl⟩)
      rintro _ _ _ ⟨rfl, rfl, rfl⟩
      replace h : code_k1b x2 r := h
      unfold code_k1b at h
      refine xq_blk_ret (xq_then_ret ?_)
      subst h
      exact rO Tryz.results13 rfl (⟨rfl, rfl⟩)
end Go.Proofs.YtljklmlodfbdnaaGreat
namespace Go.Proofs.YtljklmlodfbdnaaGreat
open Go Go.E Go.Shelf
def renO : Ren := ⟨fun x=>match x with | 5=>112 | 7=>146 | 8=>147 | 10=>158 | 11=>159 | 12=>160 | 13=>161 | 14=>162 | 15=>163 | 16=>152 | 17=>164 | 18=>165 | 19=>166 | 20=>167 | 30=>171 | 31=>172 | 32=>173 | 33=>174 | 34=>175 | 35=>169 | 40=>177 | n=>n,fun x=>match x with | 0=>0 | 3=>3 | 4=>4 | 5=>5 | 9=>9 | 22=>59 | 23=>59 | 25=>3 | 32=>211 | 35=>219 | 36=>220 | 41=>200 | 44=>226 | 46=>228 | 53=>230 | 57=>234 | 63=>236 | 64=>93 | n=>n,fun x=>x⟩
theorem layO : SlLaysM.n5 Tryz.prog renO where
 mixed := by kernel_rfl
 f5 := ⟨Tryz.f112.name,by kernel_rfl,Tryz.func112.trans (congrArg some (by kernel_rfl))⟩
 f7 := ⟨Tryz.f146.name,by kernel_rfl,Tryz.func146.trans (congrArg some (by kernel_rfl))⟩
 f8 := Tryz.func147.trans (congrArg some (by kernel_rfl))
 f10 := ⟨Tryz.f158.name,by kernel_rfl,Tryz.func158.trans (congrArg some (by kernel_rfl))⟩
 f11 := ⟨Tryz.f159.name,by kernel_rfl,Tryz.func159.trans (congrArg some (by kernel_rfl))⟩
 f12 := ⟨Tryz.f160.name,by kernel_rfl,Tryz.func160.trans (congrArg some (by kernel_rfl))⟩
 f13 := ⟨Tryz.f161.name,by kernel_rfl,Tryz.func161.trans (congrArg some (by kernel_rfl))⟩
 f14 := ⟨Tryz.f162.name,by kernel_rfl,Tryz.func162.trans (congrArg some (by kernel_rfl))⟩
 f15 := ⟨Tryz.f163.name,by kernel_rfl,Tryz.func163.trans (congrArg some (by kernel_rfl))⟩
 f16 := ⟨Tryz.f152.name,by kernel_rfl,Tryz.func152.trans (congrArg some (by kernel_rfl))⟩
 f17 := ⟨Tryz.f164.name,by kernel_rfl,Tryz.func164.trans (congrArg some (by kernel_rfl))⟩
 f18 := ⟨Tryz.f165.name,by kernel_rfl,Tryz.func165.trans (congrArg some (by kernel_rfl))⟩
 f19 := Tryz.func166.trans (congrArg some (by kernel_rfl))
 f20 := Tryz.func167.trans (congrArg some (by kernel_rfl))
 f30 := ⟨Tryz.f171.name,by kernel_rfl,Tryz.func171.trans (congrArg some (by kernel_rfl))⟩
 f31 := Tryz.func172.trans (congrArg some (by kernel_rfl))
 f32 := Tryz.func173.trans (congrArg some (by kernel_rfl))
 f33 := ⟨Tryz.f174.name,by kernel_rfl,Tryz.func174.trans (congrArg some (by kernel_rfl))⟩
 f34 := ⟨Tryz.f175.name,by kernel_rfl,Tryz.func175.trans (congrArg some (by kernel_rfl))⟩
 f35 := ⟨Tryz.f169.name,by kernel_rfl,Tryz.func169.trans (congrArg some (by kernel_rfl))⟩
 f40 := ⟨Tryz.f177.name,by kernel_rfl,Tryz.func177.trans (congrArg some (by kernel_rfl))⟩
 t0 := Tryz.underlying0
 a0 := Tryz.isAgg0
 z0 := Tryz.sizeOf0
 v0 := Tryz.zeroValue0
 t3 := Tryz.underlying3
 a3 := Tryz.isAgg3
 z3 := Tryz.sizeOf3
 v3 := Tryz.zeroValue3
 t4 := Tryz.underlying4
 a4 := Tryz.isAgg4
 z4 := Tryz.sizeOf4
 v4 := Tryz.zeroValue4
 t5 := Tryz.underlying5
 a5 := Tryz.isAgg5
 z5 := Tryz.sizeOf5
 v5 := Tryz.zeroValue5
 t9 := Tryz.underlying9
 a9 := Tryz.isAgg9
 z9 := Tryz.sizeOf9
 v9 := Tryz.zeroValue9
 t22 := Tryz.underlying59
 a22 := Tryz.isAgg59
 z22 := Tryz.sizeOf59
 v22 := Tryz.zeroValue59
 t23 := Tryz.underlying59
 a23 := Tryz.isAgg59
 z23 := Tryz.sizeOf59
 v23 := Tryz.zeroValue59
 t25 := Tryz.underlying3
 a25 := Tryz.isAgg3
 z25 := Tryz.sizeOf3
 v25 := Tryz.zeroValue3
 t32 := Tryz.underlying211
 a32 := Tryz.isAgg211
 z32 := Tryz.sizeOf211
 v32 := Tryz.zeroValue211
 t35 := Tryz.underlying219
 a35 := Tryz.isAgg219
 z35 := Tryz.sizeOf219
 v35 := Tryz.zeroValue219
 t36 := Tryz.underlying220
 a36 := Tryz.isAgg220
 z36 := Tryz.sizeOf220
 v36 := Tryz.zeroValue220
 t41 := Tryz.underlying200
 a41 := Tryz.isAgg200
 z41 := Tryz.sizeOf200
 v41 := Tryz.zeroValue200
 t44 := Tryz.underlying226
 a44 := Tryz.isAgg226
 z44 := Tryz.sizeOf226
 v44 := Tryz.zeroValue226
 t46 := Tryz.underlying228
 a46 := Tryz.isAgg228
 z46 := Tryz.sizeOf228
 v46 := Tryz.zeroValue228
 t53 := Tryz.underlying230
 a53 := Tryz.isAgg230
 z53 := Tryz.sizeOf230
 v53 := Tryz.zeroValue230
 t57 := Tryz.underlying234
 a57 := Tryz.isAgg234
 z57 := Tryz.sizeOf234
 v57 := Tryz.zeroValue234
 t63 := Tryz.underlying236
 a63 := Tryz.isAgg236
 z63 := Tryz.sizeOf236
 v63 := Tryz.zeroValue236
 t64 := Tryz.underlying93
 a64 := Tryz.isAgg93
 z64 := Tryz.sizeOf93
 v64 := Tryz.zeroValue93
theorem enO : Enters Tryz.prog 112 := enters_of Tryz.func112 (by kernel_rfl) rfl
theorem sort_c {w : World} {v : Value} {B : GH} {T : TypeId} {l : List Int} (hJ : OJ T 1 ic B v l) (hB : Has w (cat [B])) (hl : sortP l) :
  Con Tryz.prog 112 #[v] w (CatG fun u Ls=>Cov w (cat [B]) (cat Ls)∧u=.tuple #[]∧∃ C,Ls=[C]∧OJ T 1 ic C v (sortL l)∧Cov w B C) := con_sortG layO hJ hB hl
def ren132 : Ren := ⟨fun x=>match x with | 6=>90 | 7=>91 | 8=>131 | 9=>112 | 10=>132 | 11=>151 | n=>n,fun x=>match x with | 0=>0 | 3=>62 | 4=>4 | 23=>82 | 24=>59 | 26=>3 | 27=>155 | 28=>156 | 33=>123 | n=>n,fun x=>x⟩
theorem layK132 : SlLaysZI.n10 Tryz.prog ren132 where
 mixed := by kernel_rfl
 f10 := ⟨Tryz.f132.name,by kernel_rfl,Tryz.func132.trans (congrArg some (by kernel_rfl))⟩
 t0 := Tryz.underlying0
 a0 := Tryz.isAgg0
 z0 := Tryz.sizeOf0
 v0 := Tryz.zeroValue0
 t4 := Tryz.underlying4
 a4 := Tryz.isAgg4
 z4 := Tryz.sizeOf4
 v4 := Tryz.zeroValue4
 t23 := Tryz.underlying82
 a23 := Tryz.isAgg82
 z23 := Tryz.sizeOf82
 v23 := Tryz.zeroValue82
 t26 := Tryz.underlying3
 a26 := Tryz.isAgg3
 z26 := Tryz.sizeOf3
 v26 := Tryz.zeroValue3
 t33 := Tryz.underlying123
 a33 := Tryz.isAgg123
 z33 := Tryz.sizeOf123
 v33 := Tryz.zeroValue123
theorem layS132 : SlLaysZI.n6 Tryz.prog ren132 where
 mixed := by kernel_rfl
 f6 := ⟨Tryz.f90.name,by kernel_rfl,Tryz.func90.trans (congrArg some (by kernel_rfl))⟩
 f8 := ⟨Tryz.f131.name,by kernel_rfl,Tryz.func131.trans (congrArg some (by kernel_rfl))⟩
 f11 := ⟨Tryz.f151.name,by kernel_rfl,Tryz.func151.trans (congrArg some (by kernel_rfl))⟩
 t0 := Tryz.underlying0
 a0 := Tryz.isAgg0
 z0 := Tryz.sizeOf0
 v0 := Tryz.zeroValue0
 t24 := Tryz.underlying59
 a24 := Tryz.isAgg59
 z24 := Tryz.sizeOf59
 v24 := Tryz.zeroValue59
 t26 := Tryz.underlying3
 a26 := Tryz.isAgg3
 z26 := Tryz.sizeOf3
 v26 := Tryz.zeroValue3
 t28 := Tryz.underlying156
 a28 := Tryz.isAgg156
 z28 := Tryz.sizeOf156
 v28 := Tryz.zeroValue156
 i26 := by kernel_rfl
theorem sk132_c {α : Type} {cv : α → Value} {w : World} {Bm : Nat} {T : TypeId} {v : Value} {B : GH} {d : List (Int × α)} (hm : w.heap[Bm]? = some (BK 1 (fun _=>v) T)) (hJ : MJ kI cv ieq B v d) (hB : ∀ x ∈ B,w.heap[x.1]? = some x.2) (hP : skeysP d) :
  Con Tryz.prog 90 #[.func (.func 132) [].toArray [.pointer (some ⟨Bm,0,none⟩)].toArray] w (fun v F=>∃ (u : Value) (C : GH),v=u∧F=(C++[])∧OJ 3 1 ic C u (skeys d)∧Cov w [] C) :=
 con_sortedKeysJ layK132 layS132 layO rfl enO (enters_of Tryz.func132 (by kernel_rfl) rfl) hm hJ hB hP
def renI : Ren := ⟨fun x=>match x with | 21=>134 | 27=>154 | 28=>155 | 35=>170 | 39=>176 | n=>n,fun x=>match x with | 0=>0 | 3=>3 | 4=>4 | 22=>59 | n=>n,fun x=>x⟩
theorem layI : Lays2.n21 Tryz.prog renI where
 mixed := by kernel_rfl
 f21 := Tryz.func134.trans (congrArg some (by kernel_rfl))
 f27 := Tryz.func154.trans (congrArg some (by kernel_rfl))
 f28 := Tryz.func155.trans (congrArg some (by kernel_rfl))
 f35 := Tryz.func170.trans (congrArg some (by kernel_rfl))
 f39 := Tryz.func176.trans (congrArg some (by kernel_rfl))
 t0 := Tryz.underlying0
 a0 := Tryz.isAgg0
 z0 := Tryz.sizeOf0
 v0 := Tryz.zeroValue0
 t3 := Tryz.underlying3
 a3 := Tryz.isAgg3
 z3 := Tryz.sizeOf3
 v3 := Tryz.zeroValue3
 t4 := Tryz.underlying4
 a4 := Tryz.isAgg4
 z4 := Tryz.sizeOf4
 v4 := Tryz.zeroValue4
 t22 := Tryz.underlying59
 a22 := Tryz.isAgg59
 z22 := Tryz.sizeOf59
 v22 := Tryz.zeroValue59
 i3 := by kernel_rfl
end Go.Proofs.YtljklmlodfbdnaaGreat
namespace Go.Proofs.YtljklmlodfbdnaaGreat
open Go Go.E
theorem cloneI_con (s0 : (List Int)) (v0 : Value) (w : World) (hs0 : SL w 1 ic v0 s0) (r : (List Int)) (h : cloneI_S s0 r) : Con Tryz.prog 42 #[v0] w (fun v F=>∃ (u0 : Value) (C0 : GH),v=u0∧F=(C0++[])∧OJ 3 1 ic C0 u0 r∧Cov w [] C0) := by
 unfold cloneI_S at h; refine ce Tryz.func42 rfl Tryz.ntmps42 rfl (wS (va rfl (nS (xw_seq (wS (vm rfl ?_)))))); rcases SL.nilOr hs0 with ⟨hn,hl⟩ | hn
 ·replace h := h.1 hl; refine xQ rfl (o_eqn Tryz.underlying59 rfl rfl (hn.2 _) hn.1) (nS (xw_cond_t rfl rfl (wS (va rfl (nS (xw_ret (xq_then_ret ?_))))))); subst h
  exact rO Tryz.results42 rfl (⟨_,[],rfl,rfl,OJ.nil,Cov.refl _⟩)
 ·replace h := h.2; refine xQ rfl (o_eqn Tryz.underlying59 rfl rfl (hn.2 _) hn.1) (nS (xw_cond_f rfl rfl (xw_skip (xq_then (wS (xr rfl (o_bsl el59 ze3 (cells_one rfl) rfl rfl (.nil _)) ?_)))))); rintro _ _ ⟨b5,hb5,rfl,rfl⟩; refine vm rfl ?_; obtain ⟨ho2,h⟩ := h; refine xr rfl (OT.st (fun _ h=>Pull.st (.hereC _ _) h) (o_appJ (l := []) (l' := s0) (B := [_]) ap59 rfl rfl (litO 0 (l := []) mH rfl rfl (fun i hi=>match i,hi with  | q + 0,h=>absurd h (by omega))) (fun w2 hw2=>(hs0.keep hw2 (Fr.seg (Cov.new hb5) Fr.nil))) (fun _ _=>rfl) ho2 (len_max ho2 (by decide)))) ?_; rintro vs1 _ ⟨Bs1,rfl,hns1,hJs1⟩; have hcBs1 := Cov.trans (Cov.new hb5) hns1
  refine va rfl (nS (xw_ret ?_)); subst h
  exact rO Tryz.results42 rfl (⟨_,Bs1,rfl,rfl,hJs1,hcBs1⟩)
theorem cloneG_con (s0 : LM) (v0 : Value) (w : World) (hs0 : SL w 5 iv v0 s0) (r : LM) (h : cloneG_S s0 r) : Con Tryz.prog 43 #[v0] w (fun v F=>∃ (u0 : Value) (C0 : GH),v=u0∧F=(C0++[])∧OJ 104 5 iv C0 u0 r∧Cov w [] C0) := by
 unfold cloneG_S at h; refine ce Tryz.func43 rfl Tryz.ntmps43 rfl (wS (va rfl (nS (xw_seq (wS (vm rfl ?_)))))); rcases SL.nilOr hs0 with ⟨hn,hl⟩ | hn
 ·replace h := h.1 hl; refine xQ rfl (o_eqn Tryz.underlying60 rfl rfl (hn.2 _) hn.1) (nS (xw_cond_t rfl rfl (wS (va rfl (nS (xw_ret (xq_then_ret ?_))))))); subst h
  exact rO Tryz.results43 rfl (⟨_,[],rfl,rfl,OJ.nil,Cov.refl _⟩)
 ·replace h := h.2; refine xQ rfl (o_eqn Tryz.underlying60 rfl rfl (hn.2 _) hn.1) (nS (xw_cond_f rfl rfl (xw_skip (xq_then (wS (xr rfl (o_bsl el60 ze104 rfl rfl rfl (.nil _)) ?_)))))); rintro _ _ ⟨b5,hb5,rfl,rfl⟩; refine vm rfl ?_; obtain ⟨ho2,h⟩ := h; refine xr rfl (OT.st (fun _ h=>Pull.st (.hereC _ _) h) (o_appJ (l := []) (l' := s0) (B := [_]) ap60 rfl rfl (litO 0 (l := []) mH rfl rfl (fun i hi=>match i,hi with  | q + 0,h=>absurd h (by omega))) (fun w2 hw2=>(hs0.keep hw2 (Fr.seg (Cov.new hb5) Fr.nil))) (fun _ _=>rfl) ho2 (len_max ho2 (by decide)))) ?_; rintro vs1 _ ⟨Bs1,rfl,hns1,hJs1⟩; have hcBs1 := Cov.trans (Cov.new hb5) hns1
  refine va rfl (nS (xw_ret ?_)); subst h
  exact rO Tryz.results43 rfl (⟨_,Bs1,rfl,rfl,hJs1,hcBs1⟩)
theorem cloneE_con (s0 : LM) (v0 : Value) (w : World) (hs0 : SL w 7 iv v0 s0) (r : LM) (h : cloneE_S s0 r) : Con Tryz.prog 40 #[v0] w (fun v F=>∃ (u0 : Value) (C0 : GH),v=u0∧F=(C0++[])∧OJ 65 7 iv C0 u0 r∧Cov w [] C0) := by
 unfold cloneE_S at h; refine ce Tryz.func40 rfl Tryz.ntmps40 rfl (wS (va rfl (nS (xw_seq (wS (vm rfl ?_)))))); rcases SL.nilOr hs0 with ⟨hn,hl⟩ | hn
 ·replace h := h.1 hl; refine xQ rfl (o_eqn Tryz.underlying54 rfl rfl (hn.2 _) hn.1) (nS (xw_cond_t rfl rfl (wS (va rfl (nS (xw_ret (xq_then_ret ?_))))))); subst h
  exact rO Tryz.results40 rfl (⟨_,[],rfl,rfl,OJ.nil,Cov.refl _⟩)
 ·replace h := h.2; refine xQ rfl (o_eqn Tryz.underlying54 rfl rfl (hn.2 _) hn.1) (nS (xw_cond_f rfl rfl (xw_skip (xq_then (wS (xr rfl (o_bsl el54 ze65 rfl rfl rfl (.nil _)) ?_)))))); rintro _ _ ⟨b5,hb5,rfl,rfl⟩; refine vm rfl ?_; obtain ⟨ho2,h⟩ := h; refine xr rfl (OT.st (fun _ h=>Pull.st (.hereC _ _) h) (o_appJ (l := []) (l' := s0) (B := [_]) ap54 rfl rfl (litO 0 (l := []) mH rfl rfl (fun i hi=>match i,hi with  | q + 0,h=>absurd h (by omega))) (fun w2 hw2=>(hs0.keep hw2 (Fr.seg (Cov.new hb5) Fr.nil))) (fun _ _=>rfl) ho2 (len_max ho2 (by decide)))) ?_; rintro vs1 _ ⟨Bs1,rfl,hns1,hJs1⟩; have hcBs1 := Cov.trans (Cov.new hb5) hns1
  refine va rfl (nS (xw_ret ?_)); subst h
  exact rO Tryz.results40 rfl (⟨_,Bs1,rfl,rfl,hJs1,hcBs1⟩)
theorem tfree_con (ah : Int) (ab : Int) (aa : Int) (ai : Int) (ae : Bool) (ac : Int) (ad : NI) (af : Int) (ag : (List Int)) (aj : (List Int)) (ak : (List Int)) (al : LM) (v0_9 : Value) (za : Value) (zb : Value) (zc : Value) (w : World) (hs0_9 : SL w 1 ic v0_9 ag) (hs0_10 : SL w 1 ic za aj) (hs0_11 : SL w 1 ic zb ak) (hs0_12 : SL w 5 iv zc al) (r : Int) (h : tfree_S ah ab aa ai ae ac ad af ag aj ak al r) : Con Tryz.prog 95 #[AG 13 (cl [iI ah,iI ab,iI aa,iI ai,.bool (ae),iI ac,iI (ad 0),iI (ad 1),iI af,v0_9,za,zb,zc])] w (Is (errV 86 r) []) := by
 unfold tfree_S at h; refine ce Tryz.func95 rfl Tryz.ntmps95 rfl (wS (xr rfl (o_boxC [iI ah,iI ab,iI aa,iI ai,.bool (ae),iI ac,iI (ad 0),iI (ad 1),iI af,v0_9,za,zb,zc] rfl (M13 rfl rfl rfl rfl rfl rfl rfl rfl rfl rfl rfl rfl rfl)) ?_)); rintro _ _ ⟨b1,hb1,rfl,rfl⟩; refine va rfl (nS (xw_seq (xw_block (wS (xQ rfl (o_fa0 fl62_1 rfl) (xQ rfl (o_ld (v := iI ab) rfl ts3 mH (by decide) rfl) (xQ rfl (o_neq rfl rfl) (va rfl (nS (wn rfl h (fun hp1 h=>?_) fun hp1 h=>?_))))))))))
 ·refine wS (xQ rfl (o_mki rfl Tryz.underlying86 rfl) (va rfl (nS (xw_ret (xq_blk_ret (xq_then_ret ?_)))))); subst h
  exact yA Tryz.results95 rfl [] (Kp.st (Kp.new hb1 Kp.nil)) (⟨rfl,rfl⟩)
 ·refine wS (xQ rfl (o_fa0 fl62_4 rfl) (xQ rfl (o_ld (v := .bool (ae)) rfl ts4 mH (by decide) rfl) (va rfl (nS (wb rfl h (fun hp2 h=>?_) fun hp2 h=>?_)))))
  ·refine wS (xQ rfl (o_mki rfl Tryz.underlying86 rfl) (va rfl (nS (xw_ret (xq_blk_ret (xq_then_ret ?_)))))); subst h
   exact yA Tryz.results95 rfl [] (Kp.st (Kp.new hb1 Kp.nil)) (⟨rfl,rfl⟩)
  ·refine xw_skip (xq_blk 0 (xq_then (wS (va rfl (nS (xw_ret ?_)))))); subst h
   exact yA Tryz.results95 rfl [] (Kp.st (Kp.new hb1 Kp.nil)) (⟨rfl,rfl⟩)
theorem tlock_con (ah : Int) (ab : Int) (aa : Int) (ai : Int) (ae : Bool) (ac : Int) (ad : NI) (af : Int) (ag : (List Int)) (aj : (List Int)) (ak : (List Int)) (al : LM) (v0_9 : Value) (za : Value) (zb : Value) (zc : Value) (w : World) (hs0_9 : SL w 1 ic v0_9 ag) (hs0_10 : SL w 1 ic za aj) (hs0_11 : SL w 1 ic zb ak) (hs0_12 : SL w 5 iv zc al) (r : NI) (h : tlock_S ah ab aa ai ae ac ad af ag aj ak al r) : Con Tryz.prog 97 #[AG 13 (cl [iI ah,iI ab,iI aa,iI ai,.bool (ae),iI ac,iI (ad 0),iI (ad 1),iI af,v0_9,za,zb,zc])] w (Is (AI 28 r) []) := by
 unfold tlock_S at h; refine ce Tryz.func97 rfl Tryz.ntmps97 rfl (wS (xr rfl (o_boxC [iI ah,iI ab,iI aa,iI ai,.bool (ae),iI ac,iI (ad 0),iI (ad 1),iI af,v0_9,za,zb,zc] rfl (M13 rfl rfl rfl rfl rfl rfl rfl rfl rfl rfl rfl rfl rfl)) ?_)); rintro _ _ ⟨b1,hb1,rfl,rfl⟩; refine xr rfl (o_alloc ze45 rfl) ?_; rintro _ _ ⟨b2,hb2,rfl,rfl⟩; refine nR (xQ rfl (o_fa0 fl62_5 rfl) (xQ rfl (o_ld (v := iI ac) rfl ts3 (mT mH) (by decide) rfl) (xQ rfl (o_fa0 fl62_0 rfl) (xQ rfl (o_ld (v := iI ah) rfl ts3 (mT mH) (by decide) rfl) (xQ rfl (o_fa0 fl62_3 rfl) (xQ rfl (o_ld (v := iI ai) rfl ts3 (mT mH) (by decide) rfl) (xQ rfl (o_fa0 fl62_6 rfl) (xQ rfl (o_ldS (f := iv ad) rfl ts39 (mT mH) (by decide) (M2 rfl rfl)) (xQ rfl (o_fa0 fl62_7 rfl) (xQ rfl (o_ld (v := iI af) rfl ts40 (mT mH) (by decide) rfl) ?_)))))))))); refine xQ rfl (o_build fk45 ze45 (.int fl45_0 rfl rfl (.int fl45_2 rfl rfl (.int fl45_3 rfl rfl (.int fl45_4 rfl rfl (.ints fl45_5 rfl rfl (.int fl45_6 rfl rfl (.nil _)))))))) (xZ rfl (o_stWI rfl rfl ts45 mH (.here _ _ _ _)) (nS (xw_ret ?_))); subst h
 exact con_retN (.inl rfl) (l := [.cell 2 45]) Tryz.results97 (.cell rfl ts45 mH .nil) rfl [] (Kp.st (Kp.new hb2 (Kp.new hb1 Kp.nil))) (⟨rfl,rfl⟩)
theorem tto_con (ah : Int) (ab : Int) (aa : Int) (ai : Int) (ae : Bool) (ac : Int) (ad : NI) (af : Int) (ag : (List Int)) (aj : (List Int)) (ak : (List Int)) (al : LM) (kind1 : Int) (code2 : Int) (shards3 : (List Int)) (v0_9 : Value) (za : Value) (zb : Value) (zc : Value) (v3 : Value) (w : World) (hs0_9 : SL w 1 ic v0_9 ag) (hs0_10 : SL w 1 ic za aj) (hs0_11 : SL w 1 ic zb ak) (hs0_12 : SL w 5 iv zc al) (hs3 : SL w 1 ic v3 shards3) (r : LM) (h : tto_S ah ab aa ai ae ac ad af ag aj ak al kind1 code2 shards3 r) : Con Tryz.prog 100 #[AG 13 (cl [iI ah,iI ab,iI aa,iI ai,.bool (ae),iI ac,iI (ad 0),iI (ad 1),iI af,v0_9,za,zb,zc]),iI kind1,iI code2,v3] w (fun v F=>∃ (u0 : Value) (C0 : GH),v=u0∧F=(C0++[])∧OJ 45 28 iv C0 u0 r∧Cov w [] C0) := by
 unfold tto_S at h; refine ce Tryz.func100 rfl Tryz.ntmps100 rfl (wS (xr rfl (o_boxC [iI ah,iI ab,iI aa,iI ai,.bool (ae),iI ac,iI (ad 0),iI (ad 1),iI af,v0_9,za,zb,zc] rfl (M13 rfl rfl rfl rfl rfl rfl rfl rfl rfl rfl rfl rfl rfl)) ?_)); rintro _ _ ⟨b4,hb4,rfl,rfl⟩; refine va rfl (nR (va rfl (nS (xw_seq (wS (vm rfl (xQ rfl (o_lenL rfl Tryz.underlying59 rfl (SL.val hs3)) (vm rfl ?_)))))))); refine nS (xw_block ?_); obtain ⟨out9,hx1,h⟩ := h; refine xw_wh (fun s e H=>match s with | (out9,x14)=>∃ (v9_1 : Value) (B9_1 : GH),e=[(1,iI kind1),(2,iI code2),(4,.pointer (some ⟨b4,0,none⟩)),(9,v9_1),(12,v3),(13,iI (shards3.length : Int)),(14,iI x14)]∧H=B9_1++((b4,BK 13 (cl [iI ah,iI ab,iI aa,iI ai,.bool (ae),iI ac,iI (ad 0),iI (ad 1),iI af,v0_9,za,zb,zc]) 62)::([]))∧OJ 45 28 iv B9_1 v9_1 out9∧Cov w [] B9_1) (fun (out9 : LM) ex e H=>∃ (v9_1o : Value) (B9_1o : GH),ex=.exit 0∧e=[(9,v9_1o)]∧H=B9_1o++((b4,BK 13 (cl [iI ah,iI ab,iI aa,iI ai,.bool (ae),iI ac,iI (ad 0),iI (ad 1),iI af,v0_9,za,zb,zc]) 62)::([]))∧OJ 45 28 iv B9_1o v9_1o out9∧Cov w [] B9_1o) hx1 ⟨[(1,iI kind1),(2,iI code2),(4,.pointer (some ⟨b4,0,none⟩)),(9,.slice none 0 0),(12,v3),(13,iI (shards3.length : Int)),(14,iI 0)],[]++((b4,_)::([])),(sl rfl),fun _ h=>h,⟨_,[],rfl,rfl,OJ.nil,(Cov.refl _)⟩⟩ ?_ ?_
 ·rintro ⟨out9,x14⟩ o _ _ ⟨v9_1,B9_1,rfl,rfl,hJ9_1,hcB9_1⟩ hb; have h : tto_l1 ah kind1 code2 shards3 out9 x14 o := hb
  clear hb; unfold tto_l1 at h; refine wS (xQ rfl (o_lss rfl rfl) (nS (xw_seq (wd rfl h (fun hp1 h=>?_) fun hp1 h=>?_))))
  ·refine xw_skip (xq_then (xw_seq (xw_block (wS ?_)))); obtain ⟨ho2,h⟩ := h; refine xQ rfl (o_ixL el59 rfl rfl (fun w hw=>(hs3.keep hw (Fr.seg hcB9_1 (Fr.cons hb4 Fr.nil)))) rfl ho2) (xQ rfl (o_ldL1 (off := 0) (u := iI (shards3[x14.toNat]!)) rfl ts3 rfl (fun w hw=>(hs3.keep hw (Fr.seg hcB9_1 (Fr.cons hb4 Fr.nil)))) (toNat_lt ho2) rfl rfl) (va rfl (nS (xw_region (vm rfl (vm rfl (vm rfl (xQ rfl (o_fa0 fl62_0 rfl) (xQ rfl (o_ld (v := iI ah) rfl ts3 (mR mH) (by decide) rfl) (vm rfl (xQ rfl (o_build fk45 ze45 (.int fl45_0 rfl rfl (.int fl45_2 rfl rfl (.int fl45_3 rfl rfl (.int fl45_7 rfl rfl (.nil _)))))) (xr rfl (o_bsl el35 ze45 rfl rfl rfl (.ints rfl rfl (.nil _))) ?_)))))))))))); rintro _ _ ⟨b25,hb25,rfl,rfl⟩; obtain ⟨ho4,h⟩ := h; refine xr rfl (OT.st (fun _ h=>Pull.st (.thereC _ (.here _ _)) h) (o_appJ (l := out9) (l' := [(updI (updI (updI (updI (fun _=>0) 0 kind1) 2 (shards3[x14.toNat]!)) 3 ah) 8 code2)]) (B := B9_1) ap35 rfl rfl hJ9_1 (fun w2 hw2=>(litS 1 (l := [(updI (updI (updI (updI (fun _=>0) 0 kind1) 2 (shards3[x14.toNat]!)) 3 ah) 8 code2)]) hw2 (mR mH) rfl rfl (M28 rfl rfl rfl rfl rfl rfl rfl rfl rfl rfl rfl rfl rfl rfl rfl rfl rfl rfl rfl rfl rfl rfl rfl rfl rfl rfl rfl rfl))) (fun _ _=>rfl) ho4 (len_max ho4 (by decide)))) ?_; rintro vs3 _ ⟨Bs3,rfl,hns3,hJs3⟩; have hcBs3 := Cov.trans hcB9_1 hns3
   refine xo_st ((b25,_)::(Bs3++((b4,_)::([])))) (fun _ h=>Pull.push (.thereC _ (.here _ _)) h) (va rfl (xo_nil (xq_blk 1 (xq_then (xw_region ?_))))); obtain ⟨ho5,h⟩ := h; exact xQ rfl (o_add rfl rfl rfl ho5) (vm rfl (xo_nil (xq_next (s' := (((out9++[(updI (updI (updI (updI (fun _=>0) 0 kind1) 2 (shards3[x14.toNat]!)) 3 ah) 8 code2)]),x14 + 1) : LM × Int)) (e' := [(1,iI kind1),(2,iI code2),(4,.pointer (some ⟨b4,0,none⟩)),(9,vs3),(12,v3),(13,iI (shards3.length : Int)),(14,iI (x14 + 1))]) (Bs3++((b4,_)::([]))) (sl rfl) (Kp.st (Kp.new hb25 (Kp.segKeep (Kp.keep Kp.nil)))) h ⟨vs3,Bs3,rfl,rfl,hJs3,hcBs3⟩)))
  ·exact xw_exit (xq_then_exit (xq_out (r := (out9 : LM)) (e' := [(9,v9_1)]) (B9_1++((b4,_)::([]))) (sl rfl) (fun _ h=>h) h (by intro hh; cases hh) ⟨v9_1,B9_1,rfl,rfl,rfl,hJ9_1,hcB9_1⟩))
 ·rintro _ _ _ ⟨v9_1o,B9_1o,rfl,rfl,rfl,hJ9_1o,hcB9_1o⟩; replace h : tto_k1a out9 r := h; unfold tto_k1a at h; refine xq_blk_eq (xq_then (wS (vm rfl (va rfl (nS (xw_ret ?_)))))); subst h
  exact yA Tryz.results100 rfl _ (Kp.st (Kp.segKeep (Kp.new hb4 Kp.nil))) (⟨_,B9_1o,rfl,rfl,hJ9_1o,hcB9_1o⟩)
theorem hasI_con (s0 : (List Int)) (v1 : Int) (v0 : Value) (w : World) (hs0 : SL w 1 ic v0 s0) (r : Bool) (h : hasI_S s0 v1 r) : Con Tryz.prog 101 #[v0,iI v1] w (Is (.bool r) []) := by
 unfold hasI_S at h; refine ce Tryz.func101 rfl Tryz.ntmps101 rfl (wS (va rfl (nR (vm rfl (vm rfl (xin rfl kf135 rfl Tryz.func135 rfl Tryz.ntmps135 rfl (wS (va rfl ?_)))))))); refine nS (xw_seq (wS (vm rfl (xQ rfl (o_lenL rfl Tryz.underlying59 rfl (SL.val hs0)) (vm rfl (nS (xw_block ?_))))))); obtain ⟨x1,hx1,h⟩ := h; refine xw_wh (fun (x8 : Int) e H=>e=[(0,v0),(1,iI v1),(7,iI (s0.length : Int)),(8,iI x8)]∧H=[]) (fun x ex e H=>match x with | .inl _=>ex=.exit 0∧e=[]∧H=[] | .inr x4=>ex=.ret∧e=[(4,iI x4)]∧H=[]) hx1 ⟨[(0,v0),(1,iI v1),(7,iI (s0.length : Int)),(8,iI 0)],[],(sl rfl),fun _ h=>h,⟨rfl,rfl⟩⟩ ?_ ?_
 ·rintro x8 o _ _ ⟨rfl,rfl⟩ hb; have h : hasI_l1 s0 v1 x8 o := hb
  clear hb; unfold hasI_l1 at h; refine wS (xQ rfl (o_lss rfl rfl) (nS (xw_seq (wd rfl h (fun hp1 h=>?_) fun hp1 h=>?_))))
  ·refine xw_skip (xq_then (xw_seq (xw_block (wS (vm rfl (va rfl (nR (vm rfl (vm rfl ?_))))))))); refine vm rfl ?_; obtain ⟨ho2,h⟩ := h; refine xQ rfl (o_ixL el59 rfl rfl (fun w hw=>(hs0.keep hw Fr.nil)) rfl ho2) (xQ rfl (o_ldL1 (off := 0) (u := iI (s0[x8.toNat]!)) rfl ts3 rfl (fun w hw=>(hs0.keep hw Fr.nil)) (toNat_lt ho2) rfl rfl) (xQ rfl (o_eql rfl rfl) (nS (wd rfl h (fun hp3 h=>?_) fun hp3 h=>?_))))
   ·exact wS (vm rfl (va rfl (nS (xw_ret (xq_blk_ret (xq_then_ret (xq_out (r := (.inr x8 : (Unit) ⊕ (Int))) (e' := [(4,iI x8)]) ([]) (sl rfl) (fun _ h=>h) h (by intro hh; cases hh) ⟨rfl,rfl,rfl⟩)))))))
   ·refine xw_skip (xq_blk 1 (xq_then (xw_region ?_))); obtain ⟨ho4,h⟩ := h; exact xQ rfl (o_add rfl rfl rfl ho4) (vm rfl (xo_nil (xq_next (s' := (x8 + 1 : Int)) (e' := [(0,v0),(1,iI v1),(7,iI (s0.length : Int)),(8,iI (x8 + 1))]) ([]) (sl rfl) (fun _ h=>h) h ⟨rfl,rfl⟩)))
  ·exact xw_exit (xq_then_exit (xq_out (r := (.inl () : (Unit) ⊕ (Int))) (e' := []) ([]) (sl rfl) (fun _ h=>h) h (by intro hh; cases hh) ⟨rfl,rfl,rfl⟩))
 ·rcases x1 with _ | x4
  ·rintro _ _ _ ⟨rfl,rfl,rfl⟩; replace h : hasI_k1a r := h; unfold hasI_k1a at h; refine xq_blk_eq (xq_then (wS (va rfl (nS (xw_ret (rO Tryz.results135 rfl (?_))))))); refine xQ rfl (o_geq rfl rfl) (va rfl (nS (xw_ret ?_))); subst h
   exact rO Tryz.results101 rfl (⟨rfl,rfl⟩)
  rintro _ _ _ ⟨rfl,rfl,rfl⟩; replace h : hasI_k1b x4 r := h; unfold hasI_k1b at h; refine xq_blk_ret (xq_then_ret (rO Tryz.results135 rfl (?_))); refine xQ rfl (o_geq rfl rfl) (va rfl (nS (xw_ret ?_))); subst h
  exact rO Tryz.results101 rfl (⟨rfl,rfl⟩)
theorem sNaN_con (x0 : Int) (w : World) (r : Bool) (h : sNaN_S x0 r) : Con Tryz.prog 153 #[iI x0] w (Is (.bool r) []) := by
 unfold sNaN_S at h; refine ce Tryz.func153 rfl Tryz.ntmps153 rfl (wS (va rfl (nR (vm rfl (vm rfl (xQ rfl (o_neq rfl rfl) (va rfl (nS ?_)))))))); refine xw_ret ?_; subst h
 exact rO Tryz.results153 rfl (⟨rfl,rfl⟩)
theorem cNaN_con (x0 : Int) (w : World) (r : Bool) (h : cNaN_S x0 r) : Con Tryz.prog 169 #[iI x0] w (Is (.bool r) []) := by
 unfold cNaN_S at h; refine ce Tryz.func169 rfl Tryz.ntmps169 rfl (wS (va rfl (nR (vm rfl (vm rfl (xQ rfl (o_neq rfl rfl) (va rfl (nS ?_)))))))); refine xw_ret ?_; subst h
 exact rO Tryz.results169 rfl (⟨rfl,rfl⟩)
theorem less_con (x0 : Int) (y1 : Int) (w : World) (r : Bool) (h : less_S x0 y1 r) : Con Tryz.prog 152 #[iI x0,iI y1] w (Is (.bool r) []) := by
 unfold less_S at h; refine ce Tryz.func152 rfl Tryz.ntmps152 rfl (wS (va rfl (nS (xw_seq (wk [] rfl [(4,.bool ((((cNaN_F x0)) && (!((cNaN_F y1)))) || (decide (x0 < y1))))] ?_ ?_)))))
 ·refine xw_region (vm rfl (xc rfl kf169 rfl (fun w1 hw1=>cNaN_con _ w1 _ (cNaN_ok _)) (vm rfl (ob' 7 rfl (fun hp1=>?_) fun hp1=>?_))))
  ·refine vm rfl (xc rfl kf169 rfl (fun w1 hw1=>cNaN_con _ w1 _ (cNaN_ok _)) (xQ rfl (o_not rfl) (vt rfl (vm rfl (oc' 12 rfl (fun hp2=>?_) fun hp2=>?_)))))
   ·exact vs rfl (vs rfl (vs rfl (vt rfl (va rfl (xo_nil (qk rfl (by simp [hp1,hp2]) rfl))))))
   ·exact vm rfl (vm rfl (xQ rfl (o_lss rfl rfl) (vf rfl (va rfl (xo_nil (qk rfl (by simp [hp1,hp2]) rfl))))))
  ·exact vs rfl (vs rfl (vs rfl (vf rfl (vm rfl (vm rfl (vm rfl (xQ rfl (o_lss rfl rfl) (vf rfl (va rfl (xo_nil (qk rfl (by simp [hp1]) rfl)))))))))))
 ·refine xq_then (xw_ret ?_); subst h
  exact rO Tryz.results152 rfl (⟨rfl,rfl⟩)
theorem search_con (x0 : (List Int)) (target1 : Int) (v0 : Value) (w : World) (hs0 : SL w 1 ic v0 x0) (r : Int × Bool) (h : search_S x0 target1 r) : Con Tryz.prog 133 #[v0,iI target1] w (Is (.tuple #[iI r.1,.bool r.2]) []) := by
 unfold search_S at h; refine ce Tryz.func133 rfl Tryz.ntmps133 rfl (wS (va rfl (va rfl (nR (vm rfl (xQ rfl (o_lenL rfl Tryz.underlying59 rfl (SL.val hs0)) (va rfl (nS ?_)))))))); refine wS (vm rfl (va rfl (va rfl (nS (xw_seq (xw_block ?_)))))); obtain ⟨i7,hx1,h⟩ := h; refine xw_wh (fun s e H=>match s with | (i7,j8)=>e=[(0,v0),(1,iI target1),(6,iI (x0.length : Int)),(7,iI i7),(8,iI j8)]∧H=[]) (fun (i7 : Int) ex e H=>ex=.exit 0∧e=[(0,v0),(1,iI target1),(6,iI (x0.length : Int)),(7,iI i7)]∧H=[]) hx1 ⟨[(0,v0),(1,iI target1),(6,iI (x0.length : Int)),(7,iI 0),(8,iI (x0.length : Int))],[],(sl rfl),fun _ h=>h,⟨rfl,rfl⟩⟩ ?_ ?_
 ·rintro ⟨i7,j8⟩ o _ _ ⟨rfl,rfl⟩ hb; have h : search_l1 x0 target1 i7 j8 o := hb
  clear hb; unfold search_l1 at h; refine xw_seq (wS (vm rfl (vm rfl (xQ rfl (o_lss rfl rfl) (nS (wd rfl h (fun hp1 h=>?_) fun hp1 h=>?_))))))
  ·refine xw_skip (xq_then (xw_block (wS (vm rfl (vm rfl ?_))))); obtain ⟨ho2,h⟩ := h; refine xQ rfl (o_add rfl rfl rfl ho2) (xQ rfl (o_conv rfl Tryz.underlying3 Tryz.underlying211) (xQ rfl (o_shrK (c := 2) rfl rfl ⟨by decide,by decide⟩ rfl) (xQ rfl (o_conv rfl Tryz.underlying211 Tryz.underlying3) (va rfl (nR (vm rfl (vm rfl ?_))))))); obtain ⟨ho3,h⟩ := h; refine xQ rfl (o_ixL el59 rfl rfl (fun w hw=>(hs0.keep hw Fr.nil)) rfl ho3) (xQ rfl (o_ldL1 (off := 0) (u := iI (x0[(IntKind.i64.wrap ((IntKind.u64.wrap (i7 + j8)) / 2)).toNat]!)) rfl ts3 rfl (fun w hw=>(hs0.keep hw Fr.nil)) (toNat_lt ho3) rfl rfl) (vm rfl (xc rfl kf152 rfl (fun w1 hw1=>less_con _ _ w1 _ (less_ok _ _)) (nS ?_)))); have hk := h.2
   replace h := h.1; refine wk [0,1,6] rfl [(7,iI (if ((less_F (x0[(IntKind.i64.wrap ((IntKind.u64.wrap (i7 + j8)) / 2)).toNat]!) target1))=true then (IntKind.i64.wrap ((IntKind.u64.wrap (i7 + j8)) / 2)) + 1 else i7)),(8,iI (if ((less_F (x0[(IntKind.i64.wrap ((IntKind.u64.wrap (i7 + j8)) / 2)).toNat]!) target1))=true then j8 else IntKind.i64.wrap ((IntKind.u64.wrap (i7 + j8)) / 2)))] ?_ ?_
   ·refine wb rfl h (fun hp4 h=>?_) fun hp4 h=>?_
    ·refine xw_region (vm rfl ?_); obtain ⟨ho5,h⟩ := h; exact xQ rfl (o_add rfl rfl rfl ho5) (va rfl (xo_nil (xq_cut (lce rfl (by first | rfl | (simp only [dT hp1,hp4,if_pos hp1,if_pos hp4,bS,reduceIte,Bool.false_eq_true]; done) | (simp [hp1,hp4]; done) | (simp_all; done)) (lce rfl (by first | rfl | (simp only [dT hp1,hp4,if_pos hp1,if_pos hp4,bS,reduceIte,Bool.false_eq_true]; done) | (simp [hp1,hp4]; done) | (simp_all; done)) (sl rfl))) (fun _ hh=>hh))))
    ·exact xw_region (vm rfl (va rfl (xo_nil (xq_cut (lce rfl (by first | rfl | (simp only [dT hp1,bF hp4,if_pos hp1,if_neg hp4,bS,reduceIte,Bool.false_eq_true]; done) | (simp [hp1,hp4]; done) | (simp_all; done)) (lce rfl (by first | rfl | (simp only [dT hp1,bF hp4,if_pos hp1,if_neg hp4,bS,reduceIte,Bool.false_eq_true]; done) | (simp [hp1,hp4]; done) | (simp_all; done)) (sl rfl))) (fun _ hh=>hh)))))
   ·replace h := hk; exact xq_blk 1 (xq_next (s' := (((if ((less_F (x0[(IntKind.i64.wrap ((IntKind.u64.wrap (i7 + j8)) / 2)).toNat]!) target1))=true then (IntKind.i64.wrap ((IntKind.u64.wrap (i7 + j8)) / 2)) + 1 else i7),(if ((less_F (x0[(IntKind.i64.wrap ((IntKind.u64.wrap (i7 + j8)) / 2)).toNat]!) target1))=true then j8 else IntKind.i64.wrap ((IntKind.u64.wrap (i7 + j8)) / 2))) : Int × Int)) (e' := [(0,v0),(1,iI target1),(6,iI (x0.length : Int)),(7,iI (if ((less_F (x0[(IntKind.i64.wrap ((IntKind.u64.wrap (i7 + j8)) / 2)).toNat]!) target1))=true then (IntKind.i64.wrap ((IntKind.u64.wrap (i7 + j8)) / 2)) + 1 else i7)),(8,iI (if ((less_F (x0[(IntKind.i64.wrap ((IntKind.u64.wrap (i7 + j8)) / 2)).toNat]!) target1))=true then j8 else IntKind.i64.wrap ((IntKind.u64.wrap (i7 + j8)) / 2)))]) ([]) (sl rfl) (fun _ h=>h) h ⟨rfl,rfl⟩)
  ·exact xw_exit (xq_then_exit (xq_out (r := (i7 : Int)) (e' := [(0,v0),(1,iI target1),(6,iI (x0.length : Int)),(7,iI i7)]) ([]) (sl rfl) (fun _ h=>h) h (by intro hh; cases hh) ⟨rfl,rfl,rfl⟩))
 ·rintro _ _ _ ⟨rfl,rfl,rfl⟩; replace h : search_k1a x0 target1 i7 r := h; unfold search_k1a at h; refine xq_blk_eq (xq_then (xw_seq ?_)); obtain ⟨ho6,ho7,h⟩ := h; refine wk [] rfl [(4,iI i7),(5,.bool ((decide (i7 < (x0.length : Int))) && ((decide (x0[i7.toNat]! = target1)) || (((sNaN_F (x0[i7.toNat]!))) && ((sNaN_F target1))))))] ?_ ?_
  ·refine xw_region (vm rfl (vm rfl (vm rfl (xQ rfl (o_lss rfl rfl) (vm rfl (od' 35 rfl (fun hp8=>?_) fun hp8=>?_))))))
   ·refine vm rfl (vm rfl (xQ rfl (o_ixL el59 rfl rfl (fun w hw=>(hs0.keep hw Fr.nil)) rfl (ho6 (by first | exact (dT hp8) | (simp only [dT hp8,if_pos hp8,bS,reduceIte,Bool.false_eq_true]; done) | (simp [hp8]; done) | (simp_all; done)))) (xQ rfl (o_ldL1 (off := 0) (u := iI (x0[i7.toNat]!)) rfl ts3 rfl (fun w hw=>(hs0.keep hw Fr.nil)) (toNat_lt (ho6 (by first | exact (dT hp8) | (simp only [dT hp8,if_pos hp8,bS,reduceIte,Bool.false_eq_true]; done) | (simp [hp8]; done) | (simp_all; done)))) rfl rfl) (vm rfl (xQ rfl (o_eql rfl rfl) (vm rfl (od' 42 rfl (fun hp9=>?_) fun hp9=>?_)))))))
    ·refine vs rfl (vs rfl (vs rfl (vs rfl (vs rfl (vs rfl (vs rfl (vs rfl (vs rfl (vt rfl (vt rfl (va rfl (va rfl (xo_nil ?_))))))))))))); exact xq_cut ((lce rfl (by first | rfl | (simp only [dT hp8,dT hp9,if_pos hp8,if_pos hp9,bS,reduceIte,Bool.false_eq_true]; done) | (simp [hp8,hp9]; done) | (simp_all; done)) (lce rfl (by first | rfl | (simp only [dT hp8,dT hp9,if_pos hp8,if_pos hp9,bS,reduceIte,Bool.false_eq_true]; done) | (simp [hp8,hp9]; done) | (simp_all; done)) (sl rfl)))) (fun _ h=>h)
    ·refine vm rfl (vm rfl (xQ rfl (o_ixL el59 rfl rfl (fun w hw=>(hs0.keep hw Fr.nil)) rfl (ho7 (by first | exact (dT hp8) | (simp only [dT hp8,dF hp9,if_pos hp8,if_neg hp9,bS,reduceIte,Bool.false_eq_true]; done) | (simp [hp8,hp9]; done) | (simp_all; done)) (by first | exact (dF hp9) | (simp only [dT hp8,dF hp9,if_pos hp8,if_neg hp9,bS,reduceIte,Bool.false_eq_true]; done) | (simp [hp8,hp9]; done) | (simp_all; done)))) (xQ rfl (o_ldL1 (off := 0) (u := iI (x0[i7.toNat]!)) rfl ts3 rfl (fun w hw=>(hs0.keep hw Fr.nil)) (toNat_lt (ho7 (by first | exact (dT hp8) | (simp only [dT hp8,dF hp9,if_pos hp8,if_neg hp9,bS,reduceIte,Bool.false_eq_true]; done) | (simp [hp8,hp9]; done) | (simp_all; done)) (by first | exact (dF hp9) | (simp only [dT hp8,dF hp9,if_pos hp8,if_neg hp9,bS,reduceIte,Bool.false_eq_true]; done) | (simp [hp8,hp9]; done) | (simp_all; done)))) rfl rfl) (xc rfl kf153 rfl (fun w1 hw1=>sNaN_con _ w1 _ (sNaN_ok _)) (vm rfl (ob' 48 rfl (fun hp10=>?_) fun hp10=>?_))))))
     ·exact vm rfl (xc rfl kf153 rfl (fun w1 hw1=>sNaN_con _ w1 _ (sNaN_ok _)) (vt rfl (vf rfl (vt rfl (va rfl (va rfl (xo_nil (xq_cut ((lce rfl (by first | rfl | (simp only [dT hp8,dF hp9,hp10,if_pos hp8,if_neg hp9,if_pos hp10,bS,reduceIte,Bool.false_eq_true]; done) | (simp [hp8,hp9,hp10]; done) | (simp_all; done)) (lce rfl (by first | rfl | (simp only [dT hp8,dF hp9,hp10,if_pos hp8,if_neg hp9,if_pos hp10,bS,reduceIte,Bool.false_eq_true]; done) | (simp [hp8,hp9,hp10]; done) | (simp_all; done)) (sl rfl)))) (fun _ h=>h)))))))))
     ·exact vs rfl (vs rfl (vf rfl (vf rfl (vt rfl (va rfl (va rfl (xo_nil (xq_cut ((lce rfl (by first | rfl | (simp only [dT hp8,dF hp9,bF hp10,if_pos hp8,if_neg hp9,if_neg hp10,bS,reduceIte,Bool.false_eq_true]; done) | (simp [hp8,hp9,hp10]; done) | (simp_all; done)) (lce rfl (by first | rfl | (simp only [dT hp8,dF hp9,bF hp10,if_pos hp8,if_neg hp9,if_neg hp10,bS,reduceIte,Bool.false_eq_true]; done) | (simp [hp8,hp9,hp10]; done) | (simp_all; done)) (sl rfl)))) (fun _ h=>h)))))))))
   ·refine vs rfl (vs rfl (vs rfl (vs rfl (vs rfl (vs rfl (vs rfl (vs rfl (vs rfl (vs rfl (vs rfl (vs rfl (vs rfl (vs rfl ?_))))))))))))); exact vs rfl (vs rfl (vs rfl (vf rfl (va rfl (va rfl (xo_nil (xq_cut ((lce rfl (by first | rfl | (simp only [dF hp8,if_neg hp8,bS,reduceIte,Bool.false_eq_true]; done) | (simp [hp8]; done) | (simp_all; done)) (lce rfl (by first | rfl | (simp only [dF hp8,if_neg hp8,bS,reduceIte,Bool.false_eq_true]; done) | (simp [hp8]; done) | (simp_all; done)) (sl rfl)))) (fun _ h=>h))))))))
  ·refine xq_then (xw_ret ?_); subst h
   exact rT Tryz.results133 rfl rfl (⟨rfl,rfl⟩)
theorem cof_con (c0 : NI) (tx1 : Int) (p0 : Nat) (w : World) (hC : Has w (cat [[(p0,BK 28 (mv (kPA 1 3 (kS [2])) c0) 130)]])) (r : Int × Int) (h : cof_S c0 tx1 r) : Con Tryz.prog 64 #[.pointer (some ⟨p0,0,none⟩),iI tx1] w (CatG fun v Ls=>Cov w (cat [[(p0,BK 28 (mv (kPA 1 3 (kS [2])) c0) 130)]]) (cat Ls)∧v=.tuple #[iI r.1,errV 86 r.2]∧Ls=[[(p0,BK 28 (mv (kPA 1 3 (kS [2])) c0) 130)]]) := by
 unfold cof_S at h; refine ce Tryz.func64 rfl Tryz.ntmps64 rfl (xhs hC ((p0,_)::([])) rfl (wS (va rfl (va rfl (nS (xw_scope (xw_seq (wS (vm rfl (xQ rfl (o_eqn Tryz.underlying79 rfl rfl rfl rfl) ?_)))))))))); refine nS (xw_cond_f rfl rfl (xw_skip (xq_then (wS (va rfl (nS (xw_seq (xw_label (xq_then (xw_seq ?_)))))))))); refine wS (vm rfl (vp rfl (xQ rfl (o_fa0 fl130_1 rfl) (xQ rfl (o_ldS (f := mv (kPA 0 3 (kS [2])) (fun i=>c0 (1 + i))) rfl ts128 mH (by omega) (mv_sub (by decide))) (vm rfl (nS (xw_block ?_))))))); obtain ⟨whose6,hx1,h⟩ := h; refine xw_wh (fun s e H=>match s with | (whose6,x16)=>e=[(1,iI tx1),(6,iI whose6),(15,AG 27 (mv (kPA 0 3 (kS [2])) (fun i=>c0 (1 + i)))),(16,iI x16)]∧H=(p0,BK 28 (mv (kPA 1 3 (kS [2])) c0) 130)::([])) (fun (whose6 : Int) ex e H=>ex=.exit 0∧e=[(6,iI whose6)]∧H=(p0,BK 28 (mv (kPA 1 3 (kS [2])) c0) 130)::([])) hx1 ⟨[(1,iI tx1),(6,iI 0),(15,AG 27 (mv (kPA 0 3 (kS [2])) (fun i=>c0 (1 + i)))),(16,iI 0)],(p0,_)::([]),(sl rfl),fun _ h=>h,⟨rfl,rfl⟩⟩ ?_ ?_
 ·rintro ⟨whose6,x16⟩ o _ _ ⟨rfl,rfl⟩ hb; have h : cof_l1 c0 tx1 whose6 x16 o := hb
  clear hb; unfold cof_l1 at h; refine wS (xQ rfl (o_lss rfl rfl) (nS (xw_seq (wd rfl h (fun hp1 h=>?_) fun hp1 h=>?_))))
  ·refine xw_skip (xq_then (xw_seq (xw_block (wS (vm rfl ?_))))); obtain ⟨ho2,h⟩ := h; refine xQ rfl (o_ixA (j := x16.toNat) (h := mv (kS [2]) (fun i=>(fun i=>c0 (1 + i)) ((x16.toNat * 3) + i))) ea128 rfl rfl ho2 rfl (by decide) (mv_sub (fun i hi=>kpaE (j := x16.toNat) (r := i) (by omega) hi rfl))) (xr rfl (o_alloc ze127 rfl) ?_); rintro _ _ ⟨b8,hb8,rfl,rfl⟩; refine va rfl (xZ rfl (o_stW rfl rfl ts127 (fun _ _=>mv_one) mH (.here _ _ _ _)) (nS (xw_block (xw_seq (wk [1,6,7,8,15,16] rfl [(20,.bool ((decide (x16=0)) || (decide (tx1 < 1))))] ?_ ?_)))))
   ·refine xw_region (vm rfl (xQ rfl (o_eql rfl rfl) (vm rfl (od' 23 rfl (fun hp3=>?_) fun hp3=>?_))))
    ·exact vs rfl (vs rfl (vt rfl (va rfl (xo_nil (qk rfl (by simp [hp1,hp3]) rfl)))))
    ·exact vm rfl (xQ rfl (o_lss rfl rfl) (vf rfl (va rfl (xo_nil (qk rfl (by simp [hp1,hp3]) rfl)))))
   ·refine xq_then (wb rfl h (fun hp4 h=>?_) fun hp4 h=>?_)
    ·refine xw_exit (xq_blk_ne rfl (xq_blk_eq (xq_then (xw_region ?_)))); obtain ⟨ho5,h⟩ := h; exact xQ rfl (o_add rfl rfl rfl ho5) (vm rfl (xo_nil (xq_next (s' := ((whose6,x16 + 1) : Int × Int)) (e' := [(1,iI tx1),(6,iI whose6),(15,AG 27 (mv (kPA 0 3 (kS [2])) (fun i=>c0 (1 + i)))),(16,iI (x16 + 1))]) ((p0,_)::([])) (sl rfl) (Kp.st (Kp.new hb8 (Kp.keep Kp.nil))) h ⟨rfl,rfl⟩)))
    ·refine wS (xQ rfl (o_fa0 fl127_0 rfl) (xQ rfl (o_ld (v := iI (c0 (1 + (x16.toNat * 3)))) rfl ts3 mH (by omega) (mv_i rfl)) (vm rfl (xQ rfl (o_eql rfl rfl) (va rfl (nS (wd rfl h (fun hp6 h=>?_) fun hp6 h=>?_)))))))
     ·exact wS (vm rfl (va rfl (nS (xw_exit (xq_blk_ne rfl (xq_blk_ne rfl (xq_then_exit (xq_out (r := (x16 : Int)) (e' := [(6,iI x16)]) ((p0,_)::([])) (sl rfl) (Kp.st (Kp.new hb8 (Kp.keep Kp.nil))) h (by intro hh; cases hh) ⟨rfl,rfl,rfl⟩))))))))
     ·refine xw_skip (xq_blk 2 (xq_blk 1 (xq_then (xw_region ?_)))); obtain ⟨ho7,h⟩ := h; exact xQ rfl (o_add rfl rfl rfl ho7) (vm rfl (xo_nil (xq_next (s' := ((whose6,x16 + 1) : Int × Int)) (e' := [(1,iI tx1),(6,iI whose6),(15,AG 27 (mv (kPA 0 3 (kS [2])) (fun i=>c0 (1 + i)))),(16,iI (x16 + 1))]) ((p0,_)::([])) (sl rfl) (Kp.st (Kp.new hb8 (Kp.keep Kp.nil))) h ⟨rfl,rfl⟩)))
  ·exact xw_exit (xq_then_exit (xq_out (r := (whose6 : Int)) (e' := [(6,iI whose6)]) ((p0,_)::([])) (sl rfl) (fun _ h=>h) h (by intro hh; cases hh) ⟨rfl,rfl,rfl⟩))
 ·rintro _ _ _ ⟨rfl,rfl,rfl⟩; replace h : cof_k1a whose6 r := h; unfold cof_k1a at h; refine xq_blk_eq (xq_then (xw_seq (wS (vm rfl (xQ rfl (o_eql rfl rfl) (nS (wd rfl h (fun hp8 h=>?_) fun hp8 h=>?_)))))))
  ·refine wS (xQ rfl (o_mki rfl Tryz.underlying86 rfl) (va rfl (va rfl (nS (xw_ret (xq_then_ret (xq_scope_r ?_))))))); subst h
   exact rT Tryz.results64 rfl rfl (⟨[[(p0,_)]],rfl,(Cov.cons Cov.nil),rfl,rfl⟩)
  ·refine xw_skip (xq_then (wS (vm rfl (va rfl (va rfl (nS (xw_ret (xq_scope_r ?_)))))))); subst h
   exact rT Tryz.results64 rfl rfl (⟨[[(p0,_)]],rfl,(Cov.cons Cov.nil),rfl,rfl⟩)
theorem isP_con (m0 : NI) (w : World) (r : Bool) (h : isP_S m0 r) : Con Tryz.prog 140 #[AI 28 m0] w (Is (.bool r) []) := by
 unfold isP_S at h; refine ce Tryz.func140 rfl Tryz.ntmps140 rfl (wS (xr rfl (o_boxA rfl) ?_)); rintro _ _ ⟨b1,hb1,rfl,rfl⟩; refine va rfl (nS (xw_seq (wk [] rfl [(2,.bool ((decide (m0 0=11)) && (decide ((msgOk_F m0)=0))))] ?_ ?_)))
 ·refine xw_region (xQ rfl (o_fa0 fl45_0 rfl) (xQ rfl (o_ldI (v := m0 0) rfl ts3 mH (by omega) rfl) (xQ rfl (o_eql rfl rfl) (vm rfl (od' 6 rfl (fun hp1=>?_) fun hp1=>?_)))))
  ·exact xQ rfl (o_ldW rfl ts45 mH) (xc rfl kf55 rfl (fun w1 hw1=>msgOk_con _ w1 _ (msgOk_ok _)) (xQ rfl (o_eqE Tryz.underlying28 rfl (fun _=>rfl) rfl rfl) (vt rfl (va rfl (xo_nil (qk rfl (by simp [hp1]) rfl))))))
  ·exact vs rfl (vs rfl (vs rfl (vf rfl (va rfl (xo_nil (qk rfl (by simp [hp1]) rfl))))))
 ·refine xq_then (xw_ret ?_); subst h
  exact yA Tryz.results140 rfl [] (Kp.st (Kp.new hb1 Kp.nil)) (⟨rfl,rfl⟩)
theorem onward_con (shard0 : Int) (m1 : NI) (w : World) (r : NI × Int) (h : onward_S shard0 m1 r) : Con Tryz.prog 109 #[iI shard0,AI 28 m1] w (Is (.tuple #[AI 28 r.1,errV 86 r.2]) []) := by
 unfold onward_S at h; refine ce Tryz.func109 rfl Tryz.ntmps109 rfl (wS (xr rfl (o_boxA rfl) ?_)); rintro _ _ ⟨b3,hb3,rfl,rfl⟩; refine xr rfl (o_alloc ze45 rfl) ?_; rintro _ _ ⟨b4,hb4,rfl,rfl⟩; refine va rfl (nS (xw_seq (wS (xQ rfl (o_ldW rfl ts45 (mT mH)) (xc rfl kf140 rfl (fun w1 hw1=>isP_con _ w1 _ (isP_ok _)) (xQ rfl (o_not rfl) (nS (wc rfl h (fun hp1 h=>?_) fun hp1 h=>?_))))))))
 ·refine wS (xQ rfl (o_build fk45 ze45 (.nil _)) (xQ rfl (o_mki rfl Tryz.underlying86 rfl) (xZ rfl (o_stWI rfl rfl ts45 mH (.here _ _ _ _)) (va rfl (nS (xw_ret (xq_then_ret ?_))))))); subst h
  exact con_retN (.inl rfl) (l := [.cell 4 45,.tmp 5]) Tryz.results109 (.cell rfl ts45 mH (.tmp rfl .nil)) rfl [] (Kp.st (Kp.new hb4 (Kp.new hb3 Kp.nil))) (⟨rfl,rfl⟩)
 ·refine xw_skip (xq_then (wS (vm rfl (xQ rfl (o_fa0 fl45_1 rfl) (xZ rfl (o_stI rfl rfl ts3 (mT mH) (by omega) (.there _ _ _ _ _ (.here _ _ _ _))) (xQ rfl (o_fa0 fl45_2 rfl) (xZ rfl (o_stI rfl rfl ts3 (mT mH) (by omega) (.there _ _ _ _ _ (.here _ _ _ _))) (nS (xw_seq (wS ?_)))))))))); refine xQ rfl (o_ldW rfl ts45 (mT mH)) (xc rfl kf140 rfl (fun w1 hw1=>isP_con _ w1 _ (isP_ok _)) (xQ rfl (o_not rfl) (nS (wc rfl h (fun hp2 h=>?_) fun hp2 h=>?_))))
  ·refine wS (xQ rfl (o_build fk45 ze45 (.nil _)) (xQ rfl (o_mki rfl Tryz.underlying86 rfl) (xZ rfl (o_stWI rfl rfl ts45 mH (.here _ _ _ _)) (va rfl (nS (xw_ret (xq_then_ret ?_))))))); subst h
   exact con_retN (.inl rfl) (l := [.cell 4 45,.tmp 5]) Tryz.results109 (.cell rfl ts45 mH (.tmp rfl .nil)) rfl [] (Kp.st (Kp.new hb4 (Kp.new hb3 Kp.nil))) (⟨rfl,rfl⟩)
  ·refine xw_skip (xq_then (wS (xQ rfl (o_ldW rfl ts45 (mT mH)) (xZ rfl (o_stWI rfl rfl ts45 mH (.here _ _ _ _)) (va rfl (nS (xw_ret ?_))))))); subst h
   exact con_retN (.inl rfl) (l := [.cell 4 45,.tmp 5]) Tryz.results109 (.cell rfl ts45 mH (.tmp rfl .nil)) rfl [] (Kp.st (Kp.new hb4 (Kp.new hb3 Kp.nil))) (⟨rfl,rfl⟩)
theorem victim_con (m0 : NI) (w : World) (r : Int × Int) (h : victim_S m0 r) : Con Tryz.prog 108 #[AI 28 m0] w (Is (.tuple #[iI r.1,errV 86 r.2]) []) := by
 unfold victim_S at h; refine ce Tryz.func108 rfl Tryz.ntmps108 rfl (wS (xr rfl (o_boxA rfl) ?_)); rintro _ _ ⟨b1,hb1,rfl,rfl⟩; refine va rfl (va rfl (nS (xw_seq (wS (xQ rfl (o_ldW rfl ts45 mH) (xc rfl kf140 rfl (fun w1 hw1=>isP_con _ w1 _ (isP_ok _)) (xQ rfl (o_not rfl) (nS (wc rfl h (fun hp1 h=>?_) fun hp1 h=>?_)))))))))
 ·refine wS (xQ rfl (o_mki rfl Tryz.underlying86 rfl) (va rfl (va rfl (nS (xw_ret (xq_then_ret ?_)))))); subst h
  exact yB Tryz.results108 rfl rfl [] (Kp.st (Kp.new hb1 Kp.nil)) (⟨rfl,rfl⟩)
 ·refine xw_skip (xq_then (wS (va rfl (nS (xw_seq (wS (xQ rfl (o_ldW rfl ts45 mH) (xin rfl kf142 rfl Tryz.func142 rfl Tryz.ntmps142 rfl (wS ?_))))))))); refine xr rfl (o_boxA rfl) ?_; rintro _ _ ⟨b1a,hb1a,rfl,rfl⟩; refine va rfl (nR (xQ rfl (o_fa0 fl45_11 rfl) (xQ rfl (o_fa0 fl45_10 rfl) (xQ rfl (o_ldI (v := m0 11) rfl ts3 mH (by omega) rfl) ?_)))); obtain ⟨ho2,h⟩ := h; refine xQ rfl (o_slA (h := (m0 11).toNat) ea43 rfl rfl (Int.toNat_of_nonneg ho2.1).symm (by omega)) (va rfl (nS (xw_ret (rO Tryz.results142 rfl (?_))))); refine xQ rfl (o_len rfl Tryz.underlying173 rfl) (vm rfl (nS (xw_block ?_))); obtain ⟨n4,hx1,h⟩ := h; refine xw_wh (fun s e H=>match s with | (n4,x14)=>e=[(4,iI n4),(12,.slice (some ⟨b1a,12,none⟩) ((m0 11).toNat) 8),(13,iI ((m0 11).toNat : Int)),(14,iI x14)]∧H=(b1a,BK 28 (iv m0) 45)::([])) (fun (n4 : Int) ex e H=>ex=.exit 0∧e=[(4,iI n4)]∧H=(b1a,BK 28 (iv m0) 45)::([])) hx1 ⟨[(4,iI 0),(12,.slice (some ⟨b1a,12,none⟩) ((m0 11).toNat) 8),(13,iI ((m0 11).toNat : Int)),(14,iI 0)],(b1a,_)::([]),(sl rfl),Kp.st (Kp.keep (Kp.new hb1 Kp.nil)),⟨rfl,rfl⟩⟩ ?_ ?_
  ·rintro ⟨n4,x14⟩ o _ _ ⟨rfl,rfl⟩ hb; have h : victim_l1 m0 n4 x14 o := hb
   clear hb; unfold victim_l1 at h; refine wS (xQ rfl (o_lss rfl rfl) (nS (xw_seq (wd rfl h (fun hp3 h=>?_) fun hp3 h=>?_))))
   ·refine xw_skip (xq_then (xw_seq (xw_block (wS ?_)))); obtain ⟨ho4,h⟩ := h; refine xQ rfl (o_ixs el173 rfl rfl ho4 rfl) (xQ rfl (o_ldSI rfl ts42 mH (by have := ho2; have := ho4; omega) (fun _ _=>rfl)) (xr rfl (o_alloc ze42 rfl) ?_)); rintro _ _ ⟨b6,hb6,rfl,rfl⟩; refine xZ rfl (o_stWI rfl rfl ts42 mH (.here _ _ _ _)) (nS (xw_region (vm rfl (xQ rfl (o_fa0 fl42_0 rfl) (xQ rfl (o_ldI (v := m0 (12 + (x14.toNat * 2))) rfl ts3 mH (by omega) rfl) (xQ rfl (o_max2 rfl) (va rfl (xo_nil (xq_blk 1 (xq_then (xw_region ?_))))))))))); obtain ⟨ho5,h⟩ := h; exact xQ rfl (o_add rfl rfl rfl ho5) (vm rfl (xo_nil (xq_next (s' := (((if n4 < (m0 (12 + (x14.toNat * 2))) then (m0 (12 + (x14.toNat * 2))) else n4),x14 + 1) : Int × Int)) (e' := [(4,iI (if n4 < (m0 (12 + (x14.toNat * 2))) then (m0 (12 + (x14.toNat * 2))) else n4)),(12,.slice (some ⟨b1a,12,none⟩) ((m0 11).toNat) 8),(13,iI ((m0 11).toNat : Int)),(14,iI (x14 + 1))]) ((b1a,_)::([])) (sl rfl) (Kp.st (Kp.new hb6 (Kp.keep Kp.nil))) h ⟨rfl,rfl⟩)))
   ·exact xw_exit (xq_then_exit (xq_out (r := (n4 : Int)) (e' := [(4,iI n4)]) ((b1a,_)::([])) (sl rfl) (fun _ h=>h) h (by intro hh; cases hh) ⟨rfl,rfl,rfl⟩))
  ·rintro _ _ _ ⟨rfl,rfl,rfl⟩; replace h : victim_k1a n4 r := h; unfold victim_k1a at h; refine xq_blk_eq (xq_then (wS (vm rfl (va rfl (va rfl (nS (xw_ret ?_))))))); subst h
   exact yB Tryz.results108 rfl rfl [] (Kp.st (Kp.new hb1a Kp.nil)) (⟨rfl,rfl⟩)
theorem back_con (m0 : NI) (w : World) (r : Bool) (h : back_S m0 r) : Con Tryz.prog 107 #[AI 28 m0] w (Is (.bool r) []) := by
 unfold back_S at h; refine ce Tryz.func107 rfl Tryz.ntmps107 rfl (wS (xr rfl (o_boxA rfl) ?_)); rintro _ _ ⟨b1,hb1,rfl,rfl⟩; refine va rfl (nS (xw_seq (xw_seq (wk [1] rfl [(14,.bool ((!((isP_F m0))) || (!(decide (m0 9=m0 12)))))] ?_ ?_))))
 ·refine xw_region (xQ rfl (o_ldW rfl ts45 mH) (xc rfl kf140 rfl (fun w1 hw1=>isP_con _ w1 _ (isP_ok _)) (xQ rfl (o_not rfl) (vm rfl (oc' 6 rfl (fun hp1=>?_) fun hp1=>?_)))))
  ·exact vs rfl (vs rfl (vs rfl (vs rfl (vs rfl (vs rfl (vs rfl (vt rfl (xo_nil (qk rfl (by simp [hp1]) rfl)))))))))
  ·exact xQ rfl (o_fa0 fl45_8 rfl) (xQ rfl (o_ldI (v := m0 9) rfl ts3 mH (by omega) rfl) (xQ rfl (o_fa0 fl45_11 rfl) (xQ rfl (o_ixa (j := 0) ea43 rfl rfl ⟨by omega,by omega⟩ rfl) (xQ rfl (o_fa fl42_0 rfl) (xQ rfl (o_ldI (v := m0 12) rfl ts3 mH (by omega) rfl) (xQ rfl (o_neq rfl rfl) (vf rfl (xo_nil (qk rfl (by simp [hp1]) rfl)))))))))
 ·refine xq_then (wb rfl h (fun hp2 h=>?_) fun hp2 h=>?_)
  ·refine wS (va rfl (nS (xw_ret (xq_then_ret ?_)))); subst h
   exact yA Tryz.results107 rfl [] (Kp.st (Kp.new hb1 Kp.nil)) (⟨rfl,rfl⟩)
  ·refine xw_skip (xq_then (xw_seq (wS (xQ rfl (o_fa0 fl45_9 rfl) (xQ rfl (o_ldI (v := m0 10) rfl ts3 mH (by omega) rfl) (nS (xw_block (xw_seq (xw_block (xw_block (xw_seq ?_))))))))))); refine xw_seq (wS (xQ rfl (o_eql rfl rfl) (va rfl (nS (wd rfl h (fun hp3 h=>?_) fun hp3 h=>?_)))))
   ·refine xw_exit (xq_then_exit (xq_then_exit (xq_blk_eq (xq_blk 2 (xq_then (xw_seq (wS (va rfl (nS (xw_ret (xq_then_ret ?_))))))))))); refine xq_blk_ret (xq_then_ret ?_); subst h
    exact yA Tryz.results107 rfl [] (Kp.st (Kp.new hb1 Kp.nil)) (⟨rfl,rfl⟩)
   ·refine xw_skip (xq_then (wS (xQ rfl (o_fa0 fl45_11 rfl) (xQ rfl (o_ixa (j := 0) ea43 rfl rfl ⟨by omega,by omega⟩ rfl) (xQ rfl (o_fa fl42_1 rfl) (xQ rfl (o_ldI (v := m0 13) rfl ts3 mH (by omega) rfl) (xQ rfl (o_eql rfl rfl) (va rfl (nS (wd rfl h (fun hp4 h=>?_) fun hp4 h=>?_))))))))))
    ·refine xw_exit (xq_then_exit (xq_blk_ne rfl (xq_blk_eq (xq_then (xw_seq (wS (va rfl (nS (xw_ret (xq_then_ret (xq_blk_ret ?_))))))))))); refine xq_then_ret ?_; subst h
     exact yA Tryz.results107 rfl [] (Kp.st (Kp.new hb1 Kp.nil)) (⟨rfl,rfl⟩)
    ·refine xw_skip (xq_then (xw_exit (xq_blk_ne rfl (xq_blk_ne rfl (xq_then_exit (xq_blk_eq (xq_then (wS (va rfl (nS (xw_ret ?_))))))))))); subst h
     exact yA Tryz.results107 rfl [] (Kp.st (Kp.new hb1 Kp.nil)) (⟨rfl,rfl⟩)
theorem live_con (m0 : NI) (open1 : LM) (v1 : Value) (w : World) (hs1 : SL w 2 iv v1 open1) (r : Bool) (h : live_S m0 open1 r) : Con Tryz.prog 105 #[AI 28 m0,v1] w (Is (.bool r) []) := by
 unfold live_S at h; refine ce Tryz.func105 rfl Tryz.ntmps105 rfl (wS (xr rfl (o_boxA rfl) ?_)); rintro _ _ ⟨b2,hb2,rfl,rfl⟩; refine xr rfl (o_box1 rfl (oneOf (SL.val hs1))) ?_; rintro _ _ ⟨b3,hb3,rfl,rfl⟩; refine va rfl (nR (xQ rfl (o_ldW rfl ts45 (mT mH)) (xc rfl kf140 rfl (fun w1 hw1=>isP_con _ w1 _ (isP_ok _)) (vm rfl (ob 7 rfl h (fun hp1 h=>?_) fun hp1 h=>?_)))))
 ·refine xQ rfl (o_ldW rfl ts45 (mT mH)) (xin rfl kf142 rfl Tryz.func142 rfl Tryz.ntmps142 rfl (wS (xr rfl (o_boxA rfl) ?_))); rintro _ _ ⟨b1,hb1,rfl,rfl⟩; refine va rfl (nR (xQ rfl (o_fa0 fl45_11 rfl) (xQ rfl (o_fa0 fl45_10 rfl) (xQ rfl (o_ldI (v := m0 11) rfl ts3 mH (by omega) rfl) ?_)))); obtain ⟨ho2,h⟩ := h; refine xQ rfl (o_slA (h := (m0 11).toNat) ea43 rfl rfl (Int.toNat_of_nonneg ho2.1).symm (by omega)) (va rfl (nS (xw_ret (rO Tryz.results142 rfl (?_))))); refine xQ rfl (o_mkf rfl rfl) (xin rfl kf141 rfl Tryz.func141 rfl Tryz.ntmps141 rfl (wS (va rfl (nR (vm rfl (vm rfl (xin rfl kf156 rfl Tryz.func156 rfl Tryz.ntmps156 rfl (wS ?_)))))))); refine va rfl (nS (xw_seq (wS (vm rfl (xQ rfl (o_len rfl Tryz.underlying173 rfl) (vm rfl (nS (xw_block ?_)))))))); obtain ⟨x1,hx1,h⟩ := h; refine xw_wh (fun (x8 : Int) e H=>e=[(0,.slice (some ⟨b1,12,none⟩) ((m0 11).toNat) 8),(1,.func (.func 143) [].toArray [.pointer (some ⟨b3,0,none⟩)].toArray),(7,iI ((m0 11).toNat : Int)),(8,iI x8)]∧H=(b1,BK 28 (iv m0) 45)::((b3,BK 1 (fun _=>v1) 173)::((b2,BK 28 (iv m0) 45)::([])))) (fun x ex e H=>match x with | .inl _=>ex=.exit 0∧e=[]∧H=(b1,BK 28 (iv m0) 45)::((b3,BK 1 (fun _=>v1) 173)::((b2,BK 28 (iv m0) 45)::([]))) | .inr x4=>ex=.ret∧e=[(4,iI x4)]∧H=(b1,BK 28 (iv m0) 45)::((b3,BK 1 (fun _=>v1) 173)::((b2,BK 28 (iv m0) 45)::([])))) hx1 ⟨[(0,.slice (some ⟨b1,12,none⟩) ((m0 11).toNat) 8),(1,.func (.func 143) [].toArray [.pointer (some ⟨b3,0,none⟩)].toArray),(7,iI ((m0 11).toNat : Int)),(8,iI 0)],(b1,_)::((b3,_)::((b2,_)::([]))),(sl rfl),fun _ h=>h,⟨rfl,rfl⟩⟩ ?_ ?_
  ·rintro x8 o _ _ ⟨rfl,rfl⟩ hb; have h : live_l1 m0 open1 x8 o := hb
   clear hb; unfold live_l1 at h; refine wS (xQ rfl (o_lss rfl rfl) (nS (xw_seq (wd rfl h (fun hp3 h=>?_) fun hp3 h=>?_))))
   ·refine xw_skip (xq_then (xw_seq (xw_block (wS (vm rfl (va rfl (nR (vm rfl (vm rfl ?_))))))))); refine vm rfl ?_; obtain ⟨ho4,h⟩ := h; refine xQ rfl (o_ixs el173 rfl rfl ho4 rfl) (xQ rfl (o_ldSI rfl ts42 mH (by have := ho2; have := ho4; omega) (fun _ _=>rfl)) (xoR rfl trivial (ot_inv (l := [(0,_),(1,_)]) rfl kf143 rfl Tryz.func143 rfl Tryz.ntmps143 rfl (lac rfl (lac rfl lan)) ?_))); refine wS (xr rfl (o_boxA rfl) ?_); rintro _ _ ⟨b2a,hb2a,rfl,rfl⟩; refine va rfl (nR (xQ rfl (o_ldV rfl ts173 (mT (mT mH))) (xQ rfl (o_ldW rfl ts42 mH) (xin rfl kf144 rfl Tryz.func144 rfl Tryz.ntmps144 rfl (wS (xr rfl (o_boxA rfl) ?_)))))); rintro _ _ ⟨b3a,hb3a,rfl,rfl⟩; refine va rfl (nR (vm rfl (xQ rfl (o_ldW rfl ts42 mH) (xin rfl kf157 rfl Tryz.func157 rfl Tryz.ntmps157 rfl (wS (xr rfl (o_boxA rfl) ?_)))))); rintro _ _ ⟨b3aa,hb3aa,rfl,rfl⟩; refine va rfl (nS (xw_seq (wS (vm rfl (xQ rfl (o_lenL rfl Tryz.underlying173 rfl (SL.val hs1)) (vm rfl (nS (xw_block ?_)))))))); obtain ⟨x2,hx2,h⟩ := h; refine xw_wh (fun (x8a : Int) e H=>e=[(0,v1),(3,.pointer (some ⟨b3aa,0,none⟩)),(7,iI (open1.length : Int)),(8,iI x8a)]∧H=(b3aa,BK 2 (iv (fun i=>m0 ((12 + (x8.toNat * 2)) + i))) 42)::((b3a,BK 2 (iv (fun i=>m0 ((12 + (x8.toNat * 2)) + i))) 42)::((b2a,BK 2 (iv (fun i=>m0 ((12 + (x8.toNat * 2)) + i))) 42)::((b1,BK 28 (iv m0) 45)::((b3,BK 1 (fun _=>v1) 173)::((b2,BK 28 (iv m0) 45)::([]))))))) (fun x ex e H=>match x with | .inl _=>ex=.exit 0∧e=[]∧H=(b3aa,BK 2 (iv (fun i=>m0 ((12 + (x8.toNat * 2)) + i))) 42)::((b3a,BK 2 (iv (fun i=>m0 ((12 + (x8.toNat * 2)) + i))) 42)::((b2a,BK 2 (iv (fun i=>m0 ((12 + (x8.toNat * 2)) + i))) 42)::((b1,BK 28 (iv m0) 45)::((b3,BK 1 (fun _=>v1) 173)::((b2,BK 28 (iv m0) 45)::([])))))) | .inr x4=>ex=.ret∧e=[(4,iI x4)]∧H=(b3aa,BK 2 (iv (fun i=>m0 ((12 + (x8.toNat * 2)) + i))) 42)::((b3a,BK 2 (iv (fun i=>m0 ((12 + (x8.toNat * 2)) + i))) 42)::((b2a,BK 2 (iv (fun i=>m0 ((12 + (x8.toNat * 2)) + i))) 42)::((b1,BK 28 (iv m0) 45)::((b3,BK 1 (fun _=>v1) 173)::((b2,BK 28 (iv m0) 45)::([]))))))) hx2 ⟨[(0,v1),(3,.pointer (some ⟨b3aa,0,none⟩)),(7,iI (open1.length : Int)),(8,iI 0)],(b3aa,_)::((b3a,_)::((b2a,_)::((b1,_)::((b3,_)::((b2,_)::([])))))),(sl rfl),fun _ h=>h,⟨rfl,rfl⟩⟩ ?_ ?_
    ·rintro x8a o _ _ ⟨rfl,rfl⟩ hb; have h : live_l2 m0 open1 x8 x8a o := hb
     clear hb; unfold live_l2 at h; refine wS (xQ rfl (o_lss rfl rfl) (nS (xw_seq (wd rfl h (fun hp5 h=>?_) fun hp5 h=>?_))))
     ·refine xw_skip (xq_then (xw_seq (xw_block (wS (vm rfl (va rfl (nS (xw_seq (xd_start (by kernel_rfl) (by kernel_rfl) (fun hok=>?_)))))))))); refine xbr hok 0 [3] ((b3aa,_)::([])) (rsC mH rsN) rfl (by kernel_rfl) (fun _ hy hK=>o_ldW rfl ts42 (hy _ mH)) (xb hok 1 [0] rfl (by kernel_rfl) (fun _ hK=>o_mv rfl) (xb hok 2 [5] rfl (by kernel_rfl) (fun _ hK=>o_mv rfl) ?_)); obtain ⟨ho6,h⟩ := h; refine xb hok 3 [12,13] rfl (by kernel_rfl) (fun _ hK=>o_ixL el173 rfl rfl (fun w hw=>(hs1.keep hw (fun k hk=>(hK k hk).elim (fun h=>(Fr.cons hb3aa (Fr.cons hb3a (Fr.cons hb2a (Fr.cons hb1 (Fr.cons hb3 (Fr.cons hb2 Fr.nil)))))) k h) id))) rfl ho6) (xb hok 4 [14] rfl (by kernel_rfl) (fun _ hK=>o_ldLI rfl ts42 rfl (fun w hw=>(hs1.keep hw (fun k hk=>(hK k hk).elim (fun h=>(Fr.cons hb3aa (Fr.cons hb3a (Fr.cons hb2a (Fr.cons hb1 (Fr.cons hb3 (Fr.cons hb2 Fr.nil)))))) k h) id))) (toNat_lt ho6) rfl) (xb hok 5 [11,15] rfl (by kernel_rfl) (fun _ hK=>o_eqlA eq42 rfl rfl) (xd_end hok (by kernel_rfl) (xq_then (wb rfl h (fun hp7 h=>?_) fun hp7 h=>?_)))))
      ·exact wS (vm rfl (va rfl (nS (xw_ret (xq_blk_ret (xq_then_ret (xq_out (r := (.inr x8a : (Unit) ⊕ (Int))) (e' := [(4,iI x8a)]) ((b3aa,_)::((b3a,_)::((b2a,_)::((b1,_)::((b3,_)::((b2,_)::([]))))))) (sl rfl) (fun _ h=>h) h (by intro hh; cases hh) ⟨rfl,rfl,rfl⟩)))))))
      ·refine xw_skip (xq_blk 1 (xq_then (xw_region ?_))); obtain ⟨ho8,h⟩ := h; exact xQ rfl (o_add rfl rfl rfl ho8) (vm rfl (xo_nil (xq_next (s' := (x8a + 1 : Int)) (e' := [(0,v1),(3,.pointer (some ⟨b3aa,0,none⟩)),(7,iI (open1.length : Int)),(8,iI (x8a + 1))]) ((b3aa,_)::((b3a,_)::((b2a,_)::((b1,_)::((b3,_)::((b2,_)::([]))))))) (sl rfl) (fun _ h=>h) h ⟨rfl,rfl⟩)))
     ·exact xw_exit (xq_then_exit (xq_out (r := (.inl () : (Unit) ⊕ (Int))) (e' := []) ((b3aa,_)::((b3a,_)::((b2a,_)::((b1,_)::((b3,_)::((b2,_)::([]))))))) (sl rfl) (fun _ h=>h) h (by intro hh; cases hh) ⟨rfl,rfl,rfl⟩))
    ·rcases x2 with _ | x4
     ·rintro _ _ _ ⟨rfl,rfl,rfl⟩; replace h : live_k2a x8 o := h; unfold live_k2a at h; refine xq_blk_eq (xq_then (wS (va rfl (nS (xw_ret (rO Tryz.results157 rfl (?_))))))); refine xQ rfl (o_geq rfl rfl) (va rfl (nS (xw_ret (rO Tryz.results144 rfl (?_))))); refine xQ rfl (o_not rfl) (va rfl (nS (xw_ret (rO Tryz.results143 rfl (?_))))); exact nS (xw_cond_t rfl rfl (wS (vm rfl (va rfl (nS (xw_ret (xq_blk_ret (xq_then_ret (xq_out (r := (.inr x8 : (Unit) ⊕ (Int))) (e' := [(4,iI x8)]) ((b1,_)::((b3,_)::((b2,_)::([])))) (sl rfl) (Kp.st (Kp.new hb3aa (Kp.new hb3a (Kp.new hb2a (Kp.keep (Kp.keep (Kp.keep Kp.nil))))))) h (by intro hh; cases hh) ⟨rfl,rfl,rfl⟩)))))))))
     rintro _ _ _ ⟨rfl,rfl,rfl⟩; replace h : live_k2b x8 x4 o := h; unfold live_k2b at h; refine xq_blk_ret (xq_then_ret (rO Tryz.results157 rfl (?_))); refine xQ rfl (o_geq rfl rfl) (va rfl (nS (xw_ret (rO Tryz.results144 rfl (?_))))); refine xQ rfl (o_not rfl) (va rfl (nS (xw_ret (rO Tryz.results143 rfl (?_))))); refine nS (wn rfl h (fun hp9 h=>?_) fun hp9 h=>?_)
     ·exact wS (vm rfl (va rfl (nS (xw_ret (xq_blk_ret (xq_then_ret (xq_out (r := (.inr x8 : (Unit) ⊕ (Int))) (e' := [(4,iI x8)]) ((b1,_)::((b3,_)::((b2,_)::([])))) (sl rfl) (Kp.st (Kp.new hb3aa (Kp.new hb3a (Kp.new hb2a (Kp.keep (Kp.keep (Kp.keep Kp.nil))))))) h (by intro hh; cases hh) ⟨rfl,rfl,rfl⟩)))))))
     ·refine xw_skip (xq_blk 1 (xq_then (xw_region ?_))); obtain ⟨ho10,h⟩ := h; exact xQ rfl (o_add rfl rfl rfl ho10) (vm rfl (xo_nil (xq_next (s' := (x8 + 1 : Int)) (e' := [(0,.slice (some ⟨b1,12,none⟩) ((m0 11).toNat) 8),(1,.func (.func 143) [].toArray [.pointer (some ⟨b3,0,none⟩)].toArray),(7,iI ((m0 11).toNat : Int)),(8,iI (x8 + 1))]) ((b1,_)::((b3,_)::((b2,_)::([])))) (sl rfl) (Kp.st (Kp.new hb3aa (Kp.new hb3a (Kp.new hb2a (Kp.keep (Kp.keep (Kp.keep Kp.nil))))))) h ⟨rfl,rfl⟩)))
   ·exact xw_exit (xq_then_exit (xq_out (r := (.inl () : (Unit) ⊕ (Int))) (e' := []) ((b1,_)::((b3,_)::((b2,_)::([])))) (sl rfl) (fun _ h=>h) h (by intro hh; cases hh) ⟨rfl,rfl,rfl⟩))
  ·rcases x1 with _ | x4
   ·rintro _ _ _ ⟨rfl,rfl,rfl⟩; replace h : live_k1a r := h; unfold live_k1a at h; refine xq_blk_eq (xq_then (wS (va rfl (nS (xw_ret (rO Tryz.results156 rfl (?_))))))); refine xQ rfl (o_geq rfl rfl) (va rfl (nS (xw_ret (rO Tryz.results141 rfl (?_))))); refine xQ rfl (o_not rfl) (vt rfl (va rfl (nS (xw_ret ?_)))); subst h
    exact yA Tryz.results105 rfl [] (Kp.st (Kp.new hb1 (Kp.new hb3 (Kp.new hb2 Kp.nil)))) (⟨rfl,rfl⟩)
   rintro _ _ _ ⟨rfl,rfl,rfl⟩; replace h : live_k1b x4 r := h; unfold live_k1b at h; refine xq_blk_ret (xq_then_ret (rO Tryz.results156 rfl (?_))); refine xQ rfl (o_geq rfl rfl) (va rfl (nS (xw_ret (rO Tryz.results141 rfl (?_))))); refine xQ rfl (o_not rfl) (vt rfl (va rfl (nS (xw_ret ?_)))); subst h
   exact yA Tryz.results105 rfl [] (Kp.st (Kp.new hb1 (Kp.new hb3 (Kp.new hb2 Kp.nil)))) (⟨rfl,rfl⟩)
 ·refine vs rfl (vs rfl (vs rfl (vs rfl (vs rfl (vf rfl (va rfl (nS (xw_ret ?_)))))))); subst h
  exact yA Tryz.results105 rfl [] (Kp.st (Kp.new hb3 (Kp.new hb2 Kp.nil))) (⟨rfl,rfl⟩)
theorem resShard_con (r0 : NI) (n1 : Int) (w : World) (r : Int × Int) (h : resShard_S r0 n1 r) : Con Tryz.prog 50 #[AI 2 r0,iI n1] w (Is (.tuple #[iI r.1,errV 86 r.2]) []) := by
 unfold resShard_S at h; refine ce Tryz.func50 rfl Tryz.ntmps50 rfl (wS (xr rfl (o_boxA rfl) ?_)); rintro _ _ ⟨b2,hb2,rfl,rfl⟩; refine va rfl (va rfl (nS (xw_seq (xw_block (wS (xQ rfl (o_ldW rfl ts39 mH) (xc rfl kf93 rfl (fun w1 hw1=>resOk_con _ w1 _ (resOk_ok _)) (xQ rfl (o_not rfl) (va rfl (nS ?_)))))))))); refine wc rfl h (fun hp1 h=>?_) fun hp1 h=>?_
 ·refine wS (xQ rfl (o_mki rfl Tryz.underlying86 rfl) (va rfl (va rfl (nS (xw_ret (xq_blk_ret (xq_then_ret ?_))))))); subst h
  exact yB Tryz.results50 rfl rfl [] (Kp.st (Kp.new hb2 Kp.nil)) (⟨rfl,rfl⟩)
 ·refine xw_seq (wk [1,2] rfl [(11,.bool ((decide (n1 < 1)) || (decide (64 < n1))))] ?_ ?_)
  ·refine xw_region (vm rfl (xQ rfl (o_lss rfl rfl) (vm rfl (od' 14 rfl (fun hp2=>?_) fun hp2=>?_))))
   ·exact vs rfl (vs rfl (vt rfl (va rfl (xo_nil (qk rfl (by simp [hp1,hp2]) rfl)))))
   ·exact vm rfl (xQ rfl (o_gtr rfl rfl) (vf rfl (va rfl (xo_nil (qk rfl (by simp [hp1,hp2]) rfl)))))
  ·refine xq_then (wb rfl h (fun hp3 h=>?_) fun hp3 h=>?_)
   ·refine wS (xQ rfl (o_mki rfl Tryz.underlying86 rfl) (va rfl (va rfl (nS (xw_ret (xq_blk_ret (xq_then_ret ?_))))))); subst h
    exact yB Tryz.results50 rfl rfl [] (Kp.st (Kp.new hb2 Kp.nil)) (⟨rfl,rfl⟩)
   ·refine xw_skip (xq_blk 0 (xq_then (wS (xQ rfl (o_fa0 fl39_0 rfl) (xQ rfl (o_ldI (v := r0 0) rfl ts3 mH (by omega) rfl) ?_))))); obtain ⟨ho4,h⟩ := h; refine xQ rfl (o_sub rfl rfl rfl ho4) (vm rfl ?_); obtain ⟨ho5,h⟩ := h; refine xQ rfl (o_rem rfl rfl ho5 rfl) ?_; obtain ⟨ho6,h⟩ := h; refine xQ rfl (o_add rfl rfl rfl ho6) (va rfl (va rfl (nS (xw_ret ?_)))); subst h
    exact yB Tryz.results50 rfl rfl [] (Kp.st (Kp.new hb2 Kp.nil)) (⟨rfl,rfl⟩)
end Go.Proofs.YtljklmlodfbdnaaGreat
