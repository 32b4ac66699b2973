/- Part 5 of the proof. -/
import Derived.Test.YtljklmlodfbdnaaGreatJ4
import Derived.Test.YtljklmlodfbdnaaGreatJ3
import Derived.Test.YtljklmlodfbdnaaGreatJ2
set_option maxHeartbeats 1000000
set_option maxRecDepth 100000
set_option linter.unusedVariables false
set_option linter.unusedSimpArgs false
set_option linter.unusedSectionVars false
set_option linter.unnecessarySimpa false
namespace Go.E
open Go
def Lc (t:TT) (s:Int) (a:Nat->Int) (m:Int):=(Ts t.1 t.2.1 t.2.2.1 t.2.2.2.1 t.2.2.2.2.1 t.2.2.2.2.2.1 t.2.2.2.2.2.2.1 t.2.2.2.2.2.2.2.1 t.2.2.2.2.2.2.2.2.1 t.2.2.2.2.2.2.2.2.2.1 t.2.2.2.2.2.2.2.2.2.2.1 t.2.2.2.2.2.2.2.2.2.2.2) s a m
def NL (t:TT) (m:Nat->Int):=(VO t.1 t.2.1 t.2.2.1 t.2.2.2.1 t.2.2.2.2.1 t.2.2.2.2.2.1 t.2.2.2.2.2.2.1 t.2.2.2.2.2.2.2.1 t.2.2.2.2.2.2.2.2.1 t.2.2.2.2.2.2.2.2.2.1 t.2.2.2.2.2.2.2.2.2.2.1 t.2.2.2.2.2.2.2.2.2.2.2) m
def PU (t:TT):=(Tq t.1 t.2.1 t.2.2.1 t.2.2.2.1 t.2.2.2.2.1 t.2.2.2.2.2.1 t.2.2.2.2.2.2.1 t.2.2.2.2.2.2.2.1 t.2.2.2.2.2.2.2.2.1 t.2.2.2.2.2.2.2.2.2.1 t.2.2.2.2.2.2.2.2.2.2.1 t.2.2.2.2.2.2.2.2.2.2.2)
def KQ (t:TT) (m:Nat->Int):=(O9 t.1 t.2.1 t.2.2.1 t.2.2.2.1 t.2.2.2.2.1 t.2.2.2.2.2.1 t.2.2.2.2.2.2.1 t.2.2.2.2.2.2.2.1 t.2.2.2.2.2.2.2.2.1 t.2.2.2.2.2.2.2.2.2.1 t.2.2.2.2.2.2.2.2.2.2.1 t.2.2.2.2.2.2.2.2.2.2.2) m
def IK (t:TT) (r:Int):=(Le t.1 t.2.1 t.2.2.1 t.2.2.2.1 t.2.2.2.2.1 t.2.2.2.2.2.1 t.2.2.2.2.2.2.1 t.2.2.2.2.2.2.2.1 t.2.2.2.2.2.2.2.2.1 t.2.2.2.2.2.2.2.2.2.1 t.2.2.2.2.2.2.2.2.2.2.1 t.2.2.2.2.2.2.2.2.2.2.2) r
def QA (t:TT) (m:Nat->Int):=(VQ t.1 t.2.1 t.2.2.1 t.2.2.2.1 t.2.2.2.2.1 t.2.2.2.2.2.1 t.2.2.2.2.2.2.1 t.2.2.2.2.2.2.2.1 t.2.2.2.2.2.2.2.2.1 t.2.2.2.2.2.2.2.2.2.1 t.2.2.2.2.2.2.2.2.2.2.1 t.2.2.2.2.2.2.2.2.2.2.2) m
def ZN (tx:Int):TT:=(tx,1,0,0,false,0,(fun _=>0),0,[],[],[],[])
def HV (N:Int) (c:Nat->Int) (id:Int):Int:=if id<1∨N<id then 10 else if nz (c (1+(id.toNat*3+2)))=true then 11 else 0
def HZ (N:Int) (s:KS) (id:Int):Int×Int×KS:=
 if HV N s.cl id=0 then
  if s.cl (1+id.toNat*3)=0 then(s.la+1,0,⟨Gq s.cl (1+id.toNat*3) (s.la+1),s.ti,s.la+1,IH HT s.m (s.la+1) (ZN (s.la+1)),s.tr++[Gq (Gq (Gq (fun _=>0) 0 1) 1 id) 2 (s.la+1)]⟩)
  else(0,8,s)
 else(0,HV N s.cl id,s)
def XM (tx:Int) (a:Nat->Int) (m:Int):Nat->Int:=Gq (GX (Gq (Gq (fun _=>0) 0 2) 2 tx) 3 2 a) 5 m
def IT (sh N:Int) (s:KS) (id:Int) (a:Nat->Int) (m:Int):LM×Int×KS:=
 if HV N s.cl id=0 then
  if s.cl (1+id.toNat*3)=0 then([],10,s)
  else if(Hf a sh).2=0 then
   if(Lc (GU s.m (s.cl (1+id.toNat*3))) (Hf a sh).1 a m).2.2=0 then
    ((Lc (GU s.m (s.cl (1+id.toNat*3))) (Hf a sh).1 a m).2.1,0,Jq {s with tr:=s.tr++[XM (Lc (GU s.m (s.cl (1+id.toNat*3))) (Hf a sh).1 a m).1.1 a m]} (Lc (GU s.m (s.cl (1+id.toNat*3))) (Hf a sh).1 a m).1)
   else([],(Lc (GU s.m (s.cl (1+id.toNat*3))) (Hf a sh).1 a m).2.2,s)
  else([],1,s)
 else([],HV N s.cl id,s)
def Lb (s:KS) (r:TT×LM×Int):LM×Int×KS:=if r.2.2=0 then(r.2.1,0,Jq s r.1) else([],r.2.2,s)
def Ia (N:Int) (s:KS) (id:Int):LM×Int×KS:=
 if HV N s.cl id=0 then
  if s.cl (1+id.toNat*3)=0 then([],10,s)
  else Lb s (PU (GU s.m (s.cl (1+id.toNat*3))))
 else([],HV N s.cl id,s)
def HC (s:KS) (tx re:Int) (l:List Int):LM×Int×KS:=
 if(GU s.m tx).2.1∈l then Lb s (IK (GU s.m tx) re) else([],11,s)
def Ii (N:Int) (s:KS) (id:Int):LM×Int×KS:=
 if HV N s.cl id=0 then
  if s.cl (1+id.toNat*3)=0 then([],10,s)
  else HC s (GU s.m (s.cl (1+id.toNat*3))).1 1 [1]
 else([],HV N s.cl id,s)
def Jl (N:Int) (s:KS) (id:Int):Int×KS:=
 if HV N s.cl id=0 then(0,{s with cl:=M9 s.cl id.toNat s.ti,tr:=s.tr++[Gq (Gq (fun _=>0) 0 8) 1 id]})
 else(HV N s.cl id,s)
section
variable {N:Int} {n:Nat} {s:KS}
theorem N6 (h:Inv16 N s.cl) (c:Nat->Int) (id:Int):I7 c s.cl s.ti s.la s.m s.tr id/\Gv c s.cl s.ti s.la s.m s.tr id=(HV N s.cl id,s.cl):=by
 obtain⟨b1,b2⟩:=Y5 h id 1048576
 have hn:=h.n1
 unfold I7 Gv HV Kl Jd
 rw[h.c0,b2]
 simp only[Bool.or_eq_true,decide_eq_true_eq,Nat.add_assoc]
 by_cases h1:id<1∨N<id
 .simp only[Ae h1]
  rw[Af Bool.false_ne_true,Af Bool.false_ne_true]
  exact⟨⟨trivial,b1,by unfold LD;decide,GO (fun _=>trivial) fun _=>trivial⟩,rfl⟩
 .simp only[Af h1]
  have h3:¬ ((1048576:Int)<1∨(1048576:Int)<1048576):=Aa
  by_cases h2:nz (s.cl (1+(id.toNat*3+2)))=true
  .simp only[Af h3,Ae h2,h2,Bool.not_true]
   rw[Af Bool.false_ne_true,Af Bool.false_ne_true]
   exact⟨⟨⟨⟨Aa,Aa⟩,trivial⟩,b1,by unfold LD;decide,GO (fun _=>trivial) fun _=>trivial⟩,rfl⟩
  .rw[Bool.not_eq_true] at h2
   simp only[h2,Bool.not_false]
   rw[Ae trivial,Ae trivial,Af Bool.false_ne_true]
   exact⟨⟨⟨⟨Aa,Aa⟩,trivial⟩,trivial⟩,rfl⟩
theorem Ld {c:Nat->Int} {id:Int}:HV N c id=0↔¬ (id<1∨N<id)/\¬ nz (c (1+(id.toNat*3+2)))=true:=by
 unfold HV
 by_cases h1:id<1∨N<id
 .rw[Ae h1];exact⟨fun h=>(by cases h),fun h=>absurd h1 h.1⟩
 .rw[Af h1]
  by_cases h2:nz (c (1+(id.toNat*3+2)))=true
  .rw[Ae h2];exact⟨fun h=>(by cases h),fun h=>absurd h2 h.2⟩
  .rw[Af h2];exact⟨fun _=>⟨h1,h2⟩,fun _=>rfl⟩
theorem Ul (h:Inv16 N s.cl) {id:Int} (ha:HV N s.cl id=0):Ly s.cl id/\G5 s.cl id=if s.cl (1+id.toNat*3)=0 then(0,10) else(s.cl (1+id.toNat*3),0):=by
 have hn:=h.n1
 have h1:=(Ld.1 ha).1
 unfold Ly G5
 rw[h.c0]
 simp only[Bool.or_eq_true,decide_eq_true_eq]
 rw[Af h1,Af h1]
 exact⟨⟨⟨Aa,Aa⟩,GO (fun _=>trivial) fun _=>trivial⟩,rfl⟩
theorem Abs (h:KI N n s):L9 s.cl (s.la+1)=0:=by
 rcases h.hc.of (s.la+1) with ⟨h1,_⟩ | ⟨j,h1,h2,h3,h4⟩
 .exact h1
 .have hn:=h.hc.n1
  have:=(h.hb j Aa Aa).2.1
  omega
theorem Th (h:KI N n s) (hn:n<=100000) (c:Nat->Int) (id:Int):K6 c s.cl s.ti s.la s.m s.tr id /\
  GT c s.cl s.ti s.la s.m s.tr id=((HZ N s id).1,(HZ N s id).2.1,(HZ N s id).2.2.la,(HZ N s id).2.2.m,(HZ N s id).2.2.tr,(HZ N s id).2.2.cl):=by
 obtain⟨a1,a2⟩:=N6 h.hc c id
 have hl:=h.hl
 have hr:=h.hr
 unfold K6 GT HZ
 rw[a2]
 by_cases ha:HV N s.cl id=0
 .simp only[Ae ha]
  obtain⟨n1,n2⟩:=Ul h.hc ha
  obtain⟨b1,b2⟩:=Y5 h.hc id (s.la+1)
  have e1:=(Ld.1 ha).1
  have e2:=(Ld.1 ha).2
  have et:G8 (s.la+1)=(ZN (s.la+1),0):=by
   rw[Afc,Ae Aa]
   rfl
  rw[n2,et]
  by_cases h0:s.cl (1+id.toNat*3)=0
  .simp only[Ae h0]
   rw[Af e1,Af Aa,Af e2,Ae h0,Ae (Abs h)] at b2
   have hx:¬ (10:Int)=0:=Ab
   rw[Af hx,Af hx,Ae trivial,Ae trivial]
   have e3:(ZN (s.la+1)).1=s.la+1:=rfl
   rw[e3,b2]
   exact⟨⟨a1,n1,by unfold GN;omega,by unfold GN;omega,b1,Aa,trivial⟩,rfl⟩
  .simp only[Af h0]
   rw[Ae trivial,Ae trivial]
   exact⟨⟨a1,n1,trivial⟩,rfl⟩
 .simp only[Af ha]
  exact⟨⟨a1,trivial⟩,trivial⟩
theorem AdS {t:Int} (h:1<=t/\t<=1048576):TIT 0 (ZN t):=AgW h
theorem Tr (h:KI N n s) (hn:n<=100000) (id:Int):KI N (n+1) (HZ N s id).2.2:=by
 have hl:=h.hl
 have hr:=h.hr
 have hN:=h.hc.n1
 unfold HZ
 by_cases ha:HV N s.cl id=0
 .rw[Ae ha]
  by_cases h0:s.cl (1+id.toNat*3)=0
  .rw[Ae h0]
   have e1:=(Ld.1 ha).1
   have hid:=h.hc.toN e1
   refine⟨h.hc.put hid.1 Aa fun _ j j1 j2 e=>?_,?_,?_,V5 h.hu _ _,fun k=>?_,fun k k1 k2=>?_,fun j hj hne=>?_,?_⟩
   .have:=h.hb j j2 Aa;omega
   .have:=h.ht;show 0<=s.ti/\s.ti<=_;omega
   .show 0<=s.la+1/\s.la+1<=_;omega
   .show KZ HT (IH HT s.m (s.la+1) _) k=true↔1<=k/\k<=s.la+1
    rw[Wl XF,Bool.or_eq_true,h.hk]
    simp[HT]
    omega
   .show TIT _ (GU (IH HT s.m (s.la+1) _) k)/\(GU (IH HT s.m (s.la+1) _) k).1=k
    have k2':k<=s.la+1:=k2
    rw[MG]
    by_cases e:k=s.la+1
    .rw[Ae e];exact⟨(AdS Aa).mono Aa,e.symm⟩
    .rw[Af e]
     have:=h.hT k k1 Aa
     exact⟨this.1.mono Aa,this.2⟩
   .show 1<=Gq s.cl (1+id.toNat*3) (s.la+1) (1+j*3)/\Gq s.cl (1+id.toNat*3) (s.la+1) (1+j*3)<=s.la+1/\(GU (IH HT s.m (s.la+1) _) (Gq s.cl (1+id.toNat*3) (s.la+1) (1+j*3))).2.1<=2
    have hne':Gq s.cl (1+id.toNat*3) (s.la+1) (1+j*3)≠0:=hne
    rw[TC] at hne' ⊢
    rw[MG]
    by_cases e:j=id.toNat
    .rw[Ae e,Ae rfl];exact⟨Aa,Aa,by show(1:Int)<=2;omega⟩
    .rw[Af e] at hne' ⊢
     have:=h.hb j hj hne'
     rw[Af Aa]
     exact⟨this.1,Aa,this.2.2⟩
   .show(s.tr++[_]).length<=_
    rw[List.length_append,List.length_singleton];omega
  .rw[Af h0];exact h.mono Aa
 .rw[Af ha];exact h.mono Aa
end
end Go.E
namespace Go.E
open Go
section
variable {N:Int} {n:Nat} {s:KS}
theorem KI.at0 (h:KI N n s) {k:Int} (hk:¬ (1<=k/\k<=s.la)):GU s.m k=T0:=by
 unfold GU
 refine Acg ?_
 cases hm:KZ HT s.m k with
 | false=>rfl
 | true=>exact absurd ((h.hk k).1 hm) hk
theorem KI.now (h:KI N n s) {id:Int} (ha:HV N s.cl id=0) (h0:s.cl (1+id.toNat*3)≠0):1<=s.cl (1+id.toNat*3)/\s.cl (1+id.toNat*3)<=s.la:=by
 have hN:=h.hc.n1
 have:=h.hc.toN (Ld.1 ha).1
 have:=h.hb id.toNat Aa h0
 exact⟨this.1,this.2.1⟩
theorem KI.ext (h:KI N n s) (e:Nat->Int):KI N (n+1) {s with tr:=s.tr++[e]} where
 hc:=h.hc
 ht:=by have:=h.ht;show 0<=s.ti/\s.ti<=_;omega
 hl:=by have:=h.hl;show 0<=s.la/\s.la<=_;omega
 hu:=h.hu
 hk:=h.hk
 hT:=fun k h1 h2=>⟨(h.hT k h1 h2).1.mono Aa,(h.hT k h1 h2).2⟩
 hb:=h.hb
 hr:=by have:=h.hr;show(s.tr++[e]).length<=_;rw[List.length_append,List.length_singleton];omega
theorem PH (h:KI N n s) (hn:n<=100000) (c:Nat->Int) (t:TT) :
  (IZ c s.cl s.ti s.la s.m s.tr t.1 t.2.1 t.2.2.1 t.2.2.2.1 t.2.2.2.2.1 t.2.2.2.2.2.1 t.2.2.2.2.2.2.1 t.2.2.2.2.2.2.2.1 t.2.2.2.2.2.2.2.2.1 t.2.2.2.2.2.2.2.2.2.1 t.2.2.2.2.2.2.2.2.2.2.1 t.2.2.2.2.2.2.2.2.2.2.2)/\(Hq c s.cl s.ti s.la s.m s.tr t.1 t.2.1 t.2.2.1 t.2.2.2.1 t.2.2.2.2.1 t.2.2.2.2.2.1 t.2.2.2.2.2.2.1 t.2.2.2.2.2.2.2.1 t.2.2.2.2.2.2.2.2.1 t.2.2.2.2.2.2.2.2.2.1 t.2.2.2.2.2.2.2.2.2.2.1 t.2.2.2.2.2.2.2.2.2.2.2)=((Jq s t).m,(Jq s t).tr,(Jq s t).cl):=by
 have:=Aa8 h hn c t [] Ad
 rw[List.append_nil] at this
 exact this
theorem Aeb (h:KI N n s) (hn:n<=100000) (c:Nat->Int) (t:TT) (e:Nat->Int) :
  (IZ c s.cl s.ti s.la s.m (s.tr++[e]) t.1 t.2.1 t.2.2.1 t.2.2.2.1 t.2.2.2.2.1 t.2.2.2.2.2.1 t.2.2.2.2.2.2.1 t.2.2.2.2.2.2.2.1 t.2.2.2.2.2.2.2.2.1 t.2.2.2.2.2.2.2.2.2.1 t.2.2.2.2.2.2.2.2.2.2.1 t.2.2.2.2.2.2.2.2.2.2.2)/\(Hq c s.cl s.ti s.la s.m (s.tr++[e]) t.1 t.2.1 t.2.2.1 t.2.2.2.1 t.2.2.2.2.1 t.2.2.2.2.2.1 t.2.2.2.2.2.2.1 t.2.2.2.2.2.2.2.1 t.2.2.2.2.2.2.2.2.1 t.2.2.2.2.2.2.2.2.2.1 t.2.2.2.2.2.2.2.2.2.2.1 t.2.2.2.2.2.2.2.2.2.2.2)=((Jq {s with tr:=s.tr++[e]} t).m,(Jq {s with tr:=s.tr++[e]} t).tr,(Jq {s with tr:=s.tr++[e]} t).cl):=
 Aa8 h hn c t [e] Ad
theorem Ot (s:KS) (t:TT):(Jq s t).ti=s.ti/\(Jq s t).la=s.la:=by
 unfold Jq
 split <;> exact⟨rfl,rfl⟩
theorem AgH (s:KS) (t:TT):(Jq s t).m=IH HT s.m t.1 t:=by
 unfold Jq
 split <;> rfl
theorem Abr (h:KI N n s) {r:TT×LM×Int} (h1:TIT (n+1) r.1) (h2:1<=r.1.1/\r.1.1<=s.la):KI N (n+1) (Lb s r).2.2:=by
 unfold Lb
 split
 .exact h.put h1 h2.1 h2.2
 .exact h.mono Aa
theorem Aag (t:TT):(PU t).1.1=t.1:=by
 unfold PU Tq
 split
 .split
  .rfl
  .split <;> rfl
 .rfl
theorem VR (t:TT) (r:Int):(IK t r).1.1=t.1:=by
 unfold IK Le
 split
 .split <;> rfl
 .rfl
theorem XL (t:TT) (x:Int) (a:Nat->Int) (m:Int):(Lc t x a m).1.1=t.1:=by
 unfold Lc Ts
 split
 .split
  .split
   .rfl
   .split <;> rfl
  .rfl
 .rfl
theorem VN (t:TT) (m:Nat->Int):(NL t m).1.1=t.1:=by
 unfold NL VO
 split
 .split
  .split <;> rfl
  .rfl
 .rfl
theorem T1 (t:TT) (m:Nat->Int):(KQ t m).1.1=t.1:=by
 unfold KQ O9
 split
 .split
  .split
   .split
    .rfl
    .split <;> rfl
   .rfl
  .rfl
 .rfl
theorem XN (t:TT) (m:Nat->Int):(QA t m).1.1=t.1:=by
 unfold QA VQ
 split
 .split
  .split <;> rfl
  .rfl
 .rfl
theorem U6 (h:KI N n s) (hn:n<=100000) (c:Nat->Int) (hc:1<=c 0/\c 0<=64) (id:Int) (a:Nat->Int) (m:Int):RX c s.cl s.ti s.la s.m s.tr id a m /\
  Ih c s.cl s.ti s.la s.m s.tr id a m=((IT (c 0) N s id a m).1,(IT (c 0) N s id a m).2.1,(IT (c 0) N s id a m).2.2.m,(IT (c 0) N s id a m).2.2.tr,(IT (c 0) N s id a m).2.2.cl):=by
 obtain⟨a1,a2⟩:=N6 h.hc c id
 have hr:=h.hr
 unfold RX Ih IT
 rw[a2]
 by_cases ha:HV N s.cl id=0
 .simp only[Ae ha]
  obtain⟨n1,n2⟩:=Ul h.hc ha
  rw[n2]
  by_cases h0:s.cl (1+id.toNat*3)=0
  .simp only[Ae h0]
   have hx:¬ (10:Int)=0:=Ab
   rw[Af hx,Af hx]
   exact⟨⟨a1,n1,trivial⟩,rfl⟩
  .simp only[Af h0]
   rw[Ae trivial,Ae trivial]
   have hw:=h.now ha h0
   have hT:=(h.hT _ hw.1 hw.2).1
   have hP:JZ a (c 0):=by
    unfold JZ
    refine GO (fun hok=>GO (fun _=>trivial) fun _=>?_) fun _=>trivial
    unfold HQ at hok
    simp only[Bool.and_eq_true,decide_eq_true_eq] at hok
    have h3:=Int.tmod_nonneg (c 0) (a:=a 0-1) Aa
    have h4:=Int.tmod_lt_of_pos (a 0-1) (b:=c 0) Aa
    exact⟨by unfold GN;omega,Aa,by unfold GN;omega,trivial⟩
   by_cases hs:(Hf a (c 0)).2=0
   .simp only[Ae hs]
    obtain⟨t1,t2⟩:=Afe hT Aa (Hf a (c 0)).1 a m
    have e0:(H5 HT s.m (s.cl (1+id.toNat*3)) (0,0,0,0,false,0,(fun _=>0),0,[],[],[],[]))=GU s.m (s.cl (1+id.toNat*3)):=rfl
    rw[e0,t2]
    have e1:(Ts (GU s.m (s.cl (1+id.toNat*3))).1 (GU s.m (s.cl (1+id.toNat*3))).2.1 (GU s.m (s.cl (1+id.toNat*3))).2.2.1 (GU s.m (s.cl (1+id.toNat*3))).2.2.2.1 (GU s.m (s.cl (1+id.toNat*3))).2.2.2.2.1 (GU s.m (s.cl (1+id.toNat*3))).2.2.2.2.2.1 (GU s.m (s.cl (1+id.toNat*3))).2.2.2.2.2.2.1 (GU s.m (s.cl (1+id.toNat*3))).2.2.2.2.2.2.2.1 (GU s.m (s.cl (1+id.toNat*3))).2.2.2.2.2.2.2.2.1 (GU s.m (s.cl (1+id.toNat*3))).2.2.2.2.2.2.2.2.2.1 (GU s.m (s.cl (1+id.toNat*3))).2.2.2.2.2.2.2.2.2.2.1 (GU s.m (s.cl (1+id.toNat*3))).2.2.2.2.2.2.2.2.2.2.2) (Hf a (c 0)).1 a m=Lc (GU s.m (s.cl (1+id.toNat*3))) (Hf a (c 0)).1 a m:=rfl
    rw[e1]
    by_cases hz:(Lc (GU s.m (s.cl (1+id.toNat*3))) (Hf a (c 0)).1 a m).2.2=0
    .simp only[Ae hz]
     obtain⟨k1,k2⟩:=Aeb h hn c (Lc (GU s.m (s.cl (1+id.toNat*3))) (Hf a (c 0)).1 a m).1 (XM (Lc (GU s.m (s.cl (1+id.toNat*3))) (Hf a (c 0)).1 a m).1.1 a m)
     refine⟨⟨a1,n1,hP,t1,Aa,k1,trivial⟩,?_⟩
     unfold XM at k2
     rw[k2]
     rfl
    .simp only[Af hz]
     exact⟨⟨a1,n1,hP,t1,trivial⟩,trivial⟩
   .simp only[Af hs]
    exact⟨⟨a1,n1,hP,trivial⟩,trivial⟩
 .simp only[Af ha]
  exact⟨⟨a1,trivial⟩,trivial⟩
theorem Yz (h:KI N n s) (sh id:Int) (a:Nat->Int) (m:Int):KI N (n+2) (IT sh N s id a m).2.2:=by
 unfold IT
 by_cases ha:HV N s.cl id=0
 .rw[Ae ha]
  by_cases h0:s.cl (1+id.toNat*3)=0
  .rw[Ae h0];exact h.mono Aa
  .rw[Af h0]
   by_cases hs:(Hf a sh).2=0
   .rw[Ae hs]
    have hw:=h.now ha h0
    obtain⟨hT,hx⟩:=h.hT _ hw.1 hw.2
    have hq:=Aby hT (Hf a sh).1 a m
    by_cases hz:(Lc (GU s.m (s.cl (1+id.toNat*3))) (Hf a sh).1 a m).2.2=0
    .rw[Ae hz]
     have ht:=XL (GU s.m (s.cl (1+id.toNat*3))) (Hf a sh).1 a m
     refine(h.ext _).put (TIT.mono hq Aa) ?_ ?_
     .show 1<=(Lc (GU s.m (s.cl (1+id.toNat*3))) (Hf a sh).1 a m).1.1
      rw[ht,hx];exact hw.1
     .show(Lc (GU s.m (s.cl (1+id.toNat*3))) (Hf a sh).1 a m).1.1<=s.la
      rw[ht,hx];exact hw.2
    .rw[Af hz];exact h.mono Aa
   .rw[Af hs];exact h.mono Aa
 .rw[Af ha];exact h.mono Aa
theorem Q0 (h:KI N n s) (hn:n<=100000) (c:Nat->Int) (id:Int):N4 c s.cl s.ti s.la s.m s.tr id /\
  IA c s.cl s.ti s.la s.m s.tr id=((Ia N s id).1,(Ia N s id).2.1,(Ia N s id).2.2.m,(Ia N s id).2.2.tr,(Ia N s id).2.2.cl):=by
 obtain⟨a1,a2⟩:=N6 h.hc c id
 unfold N4 IA Ia Lb
 rw[a2]
 by_cases ha:HV N s.cl id=0
 .simp only[Ae ha]
  obtain⟨n1,n2⟩:=Ul h.hc ha
  rw[n2]
  by_cases h0:s.cl (1+id.toNat*3)=0
  .simp only[Ae h0]
   have hx:¬ (10:Int)=0:=Ab
   rw[Af hx,Af hx]
   exact⟨⟨a1,n1,trivial⟩,rfl⟩
  .simp only[Af h0]
   rw[Ae trivial,Ae trivial]
   have hw:=h.now ha h0
   have hT:=(h.hT _ hw.1 hw.2).1
   obtain⟨t1,t2⟩:=Zu hT Aa
   have e0:(H5 HT s.m (s.cl (1+id.toNat*3)) (0,0,0,0,false,0,(fun _=>0),0,[],[],[],[]))=GU s.m (s.cl (1+id.toNat*3)):=rfl
   rw[e0,t2]
   have e1:(Tq (GU s.m (s.cl (1+id.toNat*3))).1 (GU s.m (s.cl (1+id.toNat*3))).2.1 (GU s.m (s.cl (1+id.toNat*3))).2.2.1 (GU s.m (s.cl (1+id.toNat*3))).2.2.2.1 (GU s.m (s.cl (1+id.toNat*3))).2.2.2.2.1 (GU s.m (s.cl (1+id.toNat*3))).2.2.2.2.2.1 (GU s.m (s.cl (1+id.toNat*3))).2.2.2.2.2.2.1 (GU s.m (s.cl (1+id.toNat*3))).2.2.2.2.2.2.2.1 (GU s.m (s.cl (1+id.toNat*3))).2.2.2.2.2.2.2.2.1 (GU s.m (s.cl (1+id.toNat*3))).2.2.2.2.2.2.2.2.2.1 (GU s.m (s.cl (1+id.toNat*3))).2.2.2.2.2.2.2.2.2.2.1 (GU s.m (s.cl (1+id.toNat*3))).2.2.2.2.2.2.2.2.2.2.2)=PU (GU s.m (s.cl (1+id.toNat*3))):=rfl
   rw[e1]
   by_cases hz:(PU (GU s.m (s.cl (1+id.toNat*3)))).2.2=0
   .simp only[Ae hz]
    obtain⟨k1,k2⟩:=PH h hn c (PU (GU s.m (s.cl (1+id.toNat*3)))).1
    refine⟨⟨a1,n1,t1,k1,trivial⟩,?_⟩
    rw[k2]
   .simp only[Af hz]
    exact⟨⟨a1,n1,t1,trivial⟩,trivial⟩
 .simp only[Af ha]
  exact⟨⟨a1,trivial⟩,trivial⟩
theorem Aam (h:KI N n s) (id:Int):KI N (n+1) (Ia N s id).2.2:=by
 unfold Ia
 by_cases ha:HV N s.cl id=0
 .rw[Ae ha]
  by_cases h0:s.cl (1+id.toNat*3)=0
  .rw[Ae h0];exact h.mono Aa
  .rw[Af h0]
   have hw:=h.now ha h0
   obtain⟨hT,hx⟩:=h.hT _ hw.1 hw.2
   refine Abr h (Abn hT) ?_
   rw[Aag,hx];exact hw
 .rw[Af ha];exact h.mono Aa
theorem N8 (h:KI N n s) (hn:n<=100000) (c:Nat->Int) (tx re:Int) {l:List Int} (hl:∀ x∈l,1<=x) (DD:l.length<=2):JM c s.cl s.ti s.la s.m s.tr tx re l /\
  Hg c s.cl s.ti s.la s.m s.tr tx re l=((HC s tx re l).1,(HC s tx re l).2.1,(HC s tx re l).2.2.m,(HC s tx re l).2.2.tr,(HC s tx re l).2.2.cl):=by
 have e0:(H5 HT s.m tx (0,0,0,0,false,0,(fun _=>0),0,[],[],[],[]))=GU s.m tx:=rfl
 have hI:L6 l (GU s.m tx).2.1:=by unfold L6;omega
 unfold JM Hg HC Lb
 rw[e0]
 simp only[IC,decide_eq_true_eq]
 by_cases hm:(GU s.m tx).2.1∈l
 .simp only[Ae hm]
  have hk:1<=tx/\tx<=s.la:=by
   rcases Classical.em (1<=tx/\tx<=s.la) with hk | hk
   .exact hk
   .rw[h.at0 hk] at hm
    have:=hl _ hm
    exact absurd (show(1:Int)<=0 from this) Ab
  have hT:=(h.hT _ hk.1 hk.2).1
  obtain⟨t1,t2⟩:=AbW hT Aa re
  rw[t2]
  have e1:(Le (GU s.m tx).1 (GU s.m tx).2.1 (GU s.m tx).2.2.1 (GU s.m tx).2.2.2.1 (GU s.m tx).2.2.2.2.1 (GU s.m tx).2.2.2.2.2.1 (GU s.m tx).2.2.2.2.2.2.1 (GU s.m tx).2.2.2.2.2.2.2.1 (GU s.m tx).2.2.2.2.2.2.2.2.1 (GU s.m tx).2.2.2.2.2.2.2.2.2.1 (GU s.m tx).2.2.2.2.2.2.2.2.2.2.1 (GU s.m tx).2.2.2.2.2.2.2.2.2.2.2) re=IK (GU s.m tx) re:=rfl
  rw[e1]
  by_cases hz:(IK (GU s.m tx) re).2.2=0
  .simp only[Ae hz]
   obtain⟨k1,k2⟩:=PH h hn c (IK (GU s.m tx) re).1
   refine⟨⟨hI,t1,k1,trivial⟩,?_⟩
   rw[k2]
  .simp only[Af hz]
   exact⟨⟨hI,t1,trivial⟩,trivial⟩
 .simp only[Af hm]
  exact⟨⟨hI,trivial⟩,trivial⟩
theorem Mu (h:KI N n s) (tx re:Int) {l:List Int} (hl:∀ x∈l,1<=x):KI N (n+1) (HC s tx re l).2.2:=by
 unfold HC
 by_cases hm:(GU s.m tx).2.1∈l
 .rw[Ae hm]
  have hk:1<=tx/\tx<=s.la:=by
   rcases Classical.em (1<=tx/\tx<=s.la) with hk | hk
   .exact hk
   .rw[h.at0 hk] at hm
    have:=hl _ hm
    exact absurd (show(1:Int)<=0 from this) Ab
  obtain⟨hT,hx⟩:=h.hT _ hk.1 hk.2
  refine Abr h (Ty hT re) ?_
  rw[VR,hx];exact hk
 .rw[Af hm];exact h.mono Aa
theorem Vc (h:KI N n s) (hn:n<=100000) (c:Nat->Int) (id:Int):Qq c s.cl s.ti s.la s.m s.tr id /\
  IP c s.cl s.ti s.la s.m s.tr id=((Ii N s id).1,(Ii N s id).2.1,(Ii N s id).2.2.m,(Ii N s id).2.2.tr,(Ii N s id).2.2.cl):=by
 obtain⟨a1,a2⟩:=N6 h.hc c id
 unfold Qq IP Ii
 rw[a2]
 by_cases ha:HV N s.cl id=0
 .simp only[Ae ha]
  obtain⟨n1,n2⟩:=Ul h.hc ha
  rw[n2]
  by_cases h0:s.cl (1+id.toNat*3)=0
  .simp only[Ae h0]
   have hx:¬ (10:Int)=0:=Ab
   rw[Af hx,Af hx]
   exact⟨⟨a1,n1,trivial⟩,rfl⟩
  .simp only[Af h0]
   rw[Ae trivial,Ae trivial]
   have e0:(H5 HT s.m (s.cl (1+id.toNat*3)) (0,0,0,0,false,0,(fun _=>0),0,[],[],[],[]))=GU s.m (s.cl (1+id.toNat*3)):=rfl
   rw[e0]
   obtain⟨k1,k2⟩:=N8 h hn c (GU s.m (s.cl (1+id.toNat*3))).1 1 (l:=[1]) Ad Ad
   refine⟨⟨a1,n1,k1,trivial⟩,?_⟩
   rw[k2]
 .simp only[Af ha]
  exact⟨⟨a1,trivial⟩,trivial⟩
theorem Aax (h:KI N n s) (id:Int):KI N (n+1) (Ii N s id).2.2:=by
 unfold Ii
 by_cases ha:HV N s.cl id=0
 .rw[Ae ha]
  by_cases h0:s.cl (1+id.toNat*3)=0
  .rw[Ae h0];exact h.mono Aa
  .rw[Af h0]
   exact Mu h _ _ Ad
 .rw[Af ha];exact h.mono Aa
theorem Wp (h:KI N n s) (hn:n<=100000) (c:Nat->Int) (id:Int):MX c s.cl s.ti s.la s.m s.tr id /\
  K5 c s.cl s.ti s.la s.m s.tr id=((Jl N s id).1,(Jl N s id).2.tr,(Jl N s id).2.cl):=by
 obtain⟨a1,a2⟩:=N6 h.hc c id
 obtain⟨c1,c2⟩:=AeE h.hc id s.ti
 have hr:=h.hr
 have ht:=h.ht
 unfold MX K5 Jl
 rw[a2]
 by_cases ha:HV N s.cl id=0
 .simp only[Ae ha]
  have e:=Ld.1 ha
  rw[Af e.1,Af Aa,Af e.2] at c2
  rw[c2]
  exact⟨⟨a1,c1,Aa,trivial⟩,rfl⟩
 .simp only[Af ha]
  exact⟨⟨a1,trivial⟩,trivial⟩
theorem Wz (h:KI N n s) (hn:n<=100000) (id:Int):KI N (n+1) (Jl N s id).2:=by
 unfold Jl
 have ht:=h.ht
 by_cases ha:HV N s.cl id=0
 .rw[Ae ha]
  have e:=h.hc.toN (Ld.1 ha).1
  have hx:=h.ext (Gq (Gq (fun _=>0) 0 8) 1 id)
  exact {hx with
   hc:=h.hc.dead e.1 Aa
   hb:=fun j hj hne=>by
    have hne':M9 s.cl id.toNat s.ti (1+j*3)≠0:=hne
    show 1<=M9 s.cl id.toNat s.ti (1+j*3)/\M9 s.cl id.toNat s.ti (1+j*3)<=s.la/\(GU s.m (M9 s.cl id.toNat s.ti (1+j*3))).2.1<=2
    rw[O1] at hne' ⊢
    exact h.hb j hj hne'}
 .rw[Af ha];exact h.mono Aa
end
end Go.E
namespace Go.E
open Go
def Nu (m:TM):LM:=(Hu m).flatMap (Tc m)
def JE (pr:Bool) (s:KS) (m:Nat->Int):LM×KS:=
 if pr=true then
  if K3 m (Nu s.m)=true then
   if Nb m=true then((HC s (Ik m).1 4 [1]).1,(HC s (Ik m).1 4 [1]).2.2)
   else if((!(GU s.m (m 9)).2.2.2.2.1)||((!(decide (m 10=0)))&&(!(decide (m 10=(GU s.m (m 9)).2.2.2.1)))))=true then([],s)
   else if(J0 (GU s.m (m 9)).2.2.2.2.2.1 m).2=0 then([(J0 (GU s.m (m 9)).2.2.2.2.2.1 m).1],s) else([],s)
  else([],s)
 else([],s)
def L0 (pr:Bool) (s:KS) (m:Nat->Int):LM×KS:=
 if(pr||((!(decide ((GU s.m (m 9)).2.1=1)))&&(!(decide ((GU s.m (m 9)).2.1=2)))))=true then([],s)
 else((HC s (m 3) 3 [1]).1,(HC s (m 3) 3 [1]).2.2)
def evG (t:TT) (m:Nat->Int) (tx:Int):Nat->Int:=
 if m 0=2 then Gq (GX (Gq (Gq (fun _=>0) 0 3) 2 tx) 3 2 t.2.2.2.2.2.2.1) 5 (m 7) else Gq (GX (Gq (Gq (fun _=>0) 0 4) 2 tx) 3 2 t.2.2.2.2.2.2.1) 6 (m 8)
def Afo (s:KS) (e:Nat->Int):KS:={s with tr:=s.tr++[e]}
def Rj (s:KS) (m:Nat->Int):LM×KS:=
 if(NL (GU s.m (m 3)) m).2=0 then([],Afo (Jq s (NL (GU s.m (m 3)) m).1) (evG (GU s.m (m 3)) m (NL (GU s.m (m 3)) m).1.1)) else([],s)
def TA (s:KS) (m:Nat->Int):LM×KS:=
 if(KQ (GU s.m (m 3)) m).2.2=0 then((KQ (GU s.m (m 3)) m).2.1,Jq s (KQ (GU s.m (m 3)) m).1) else([],s)
def Y9 (s:KS) (m:Nat->Int):LM×KS:=
 if(QA (GU s.m (m 3)) m).2=0 then([],Jq s (QA (GU s.m (m 3)) m).1) else([],s)
def L8 (pr:Bool) (s:KS) (m:Nat->Int):LM×KS:=
 if m 0=11 then JE pr s m
 else if KZ HT s.m (m 3)=true then
  if m 0=2 then Rj s m else if m 0=3 then Rj s m else if m 0=5 then TA s m else if m 0=7 then Y9 s m
  else if m 0=9 then((HC s (m 3) 5 [1,2]).1,(HC s (m 3) 5 [1,2]).2.2) else if m 0=10 then L0 pr s m else([],s)
 else([],s)
def IB (sh:Int) (pr:Bool) (s:KS) (m:Nat->Int):LM×Int×KS:=
 if Pf m=true then
  if((!(decide (m 2=0)))||(decide (sh<m 1)))=true then([],1,s) else((L8 pr s m).1,0,(L8 pr s m).2)
 else([],5,s)
section
variable {N:Int} {n:Nat} {s:KS}
theorem KI.keys (h:KI N n s):Hu s.m=(List.range s.la.toNat).map fun k:Nat=>(k:Int)+1:=by
 refine Adk h.hu ?_ fun x=>?_
 .rw[List.pairwise_map]
  exact List.pairwise_lt_range.imp fun h=> Aa
 .rw[h.hk,List.mem_map]
  have hl:=h.hl
  constructor
  .rintro⟨k,hk,rfl⟩
   rw[List.mem_range] at hk
   omega
  .intro hx
   exact⟨(x-1).toNat,by rw[List.mem_range];omega,Aa⟩
theorem KI.len (h:KI N n s):s.m.length=s.la.toNat:=by
 rw[<- S6,h.keys];simp
theorem KI.skP (h:KI N n s) (hn:n<=100000):NC s.m:=by
 have hl:=h.hl
 refine⟨fun p hp=>?_,by rw[h.len];omega⟩
 have:=(h.hk p.1).1 (Yw.2 (List.mem_map.2 ⟨p,hp,rfl⟩))
 unfold GN;omega
theorem KI.openP (h:KI N n s) (hn:n<=100000) (c:Nat->Int):Uf c s.cl s.ti s.la s.m s.tr:=h.skP hn
theorem KI.openLen (h:KI N n s):(Nu s.m).length<=n:=by
 have hl:=h.hl
 have:=YE s.m (Hu s.m)
 rw[S6,h.len] at this
 unfold Nu;omega
theorem ZX (h:KI N n s) (hn:n<=100000) (c m:Nat->Int):N3 c s.cl s.ti s.la s.m s.tr m /\
  Jy c s.cl s.ti s.la s.m s.tr m=((JE (nz (c 1)) s m).1,(JE (nz (c 1)) s m).2.m,(JE (nz (c 1)) s m).2.tr,(JE (nz (c 1)) s m).2.cl):=by
 have e0:(H5 HT s.m (m 9) (0,0,0,0,false,0,(fun _=>0),0,[],[],[],[]))=GU s.m (m 9):=rfl
 have e1:Mi c s.cl s.ti s.la s.m s.tr=Nu s.m:=rfl
 have hl:=h.openLen
 unfold N3 Jy JE
 rw[e0,e1]
 by_cases h1:nz (c 1)=true
 .simp only[Ae h1]
  have hp:=h.openP hn c
  have hlp:NE m (Nu s.m):=by unfold NE;omega
  by_cases h2:K3 m (Nu s.m)=true
  .simp only[Ae h2]
   by_cases h3:Nb m=true
   .simp only[Ae h3]
    obtain⟨k1,k2⟩:=N8 h hn c (Ik m).1 4 (l:=[1]) Ad Ad
    rw[k2]
    exact⟨⟨hp,hlp,k1,trivial⟩,rfl⟩
   .simp only[Af h3]
    refine⟨⟨hp,hlp,GO (fun _=>trivial) fun _=>GO (fun _=>trivial) fun _=>trivial⟩,?_⟩
    split
    .rfl
    .split <;> rfl
  .simp only[Af h2]
   exact⟨⟨hp,hlp,trivial⟩,trivial⟩
 .simp only[Af h1]
  exact⟨trivial,trivial⟩
theorem YC (h:KI N n s) (hn:n<=100000) (c m:Nat->Int):MU c s.cl s.ti s.la s.m s.tr m /\
  IU c s.cl s.ti s.la s.m s.tr m=((L0 (nz (c 1)) s m).1,(L0 (nz (c 1)) s m).2.m,(L0 (nz (c 1)) s m).2.tr,(L0 (nz (c 1)) s m).2.cl):=by
 have e0:(H5 HT s.m (m 9) (0,0,0,0,false,0,(fun _=>0),0,[],[],[],[]))=GU s.m (m 9):=rfl
 unfold MU IU L0
 rw[e0]
 by_cases h1:(nz (c 1)||((!(decide ((GU s.m (m 9)).2.1=1)))&&(!(decide ((GU s.m (m 9)).2.1=2)))))=true
 .simp only[Ae h1];exact⟨trivial,trivial⟩
 .simp only[Af h1]
  obtain⟨k1,k2⟩:=N8 h hn c (m 3) 3 (l:=[1]) Ad Ad
  rw[k2]
  exact⟨⟨k1,trivial⟩,rfl⟩
theorem Ye (h:KI N n s) (t:TT):(Jq s t).tr.length<=2*n+1:=by
 have hr:=h.hr
 have he:=Abo t
 unfold Jq
 split
 .show s.tr.length<=_;omega
 .show(s.tr++evS t).length<=_;rw[List.length_append];omega
theorem U7 (h:KI N n s) (hn:n<=100000) (c m:Nat->Int):Qp c s.cl s.ti s.la s.m s.tr m /\
  IN c s.cl s.ti s.la s.m s.tr m=((IB (c 0) (nz (c 1)) s m).1,(IB (c 0) (nz (c 1)) s m).2.1,(IB (c 0) (nz (c 1)) s m).2.2.m,(IB (c 0) (nz (c 1)) s m).2.2.tr,(IB (c 0) (nz (c 1)) s m).2.2.cl):=by
 have e0:(H5 HT s.m (m 3) (0,0,0,0,false,0,(fun _=>0),0,[],[],[],[]))=GU s.m (m 3):=rfl
 unfold Qp IN IB
 rw[e0]
 by_cases h1:Pf m=true
 .rw[Ae h1,Ae ((RT m).2 h1),Ae ((RT m).2 h1)]
  by_cases h2:((!(decide (m 2=0)))||(decide (c 0<m 1)))=true
  .simp only[Ae h2];exact⟨trivial,trivial⟩
  .simp only[Af h2]
   unfold L8
   by_cases zJ:m 0=11
   .simp only[Ae zJ]
    obtain⟨p1,p2⟩:=ZX h hn c m
    rw[p2]
    exact⟨⟨p1,trivial⟩,rfl⟩
   .simp only[Af zJ]
    by_cases hm:KZ HT s.m (m 3)=true
    .simp only[Ae hm]
     have hk:=(h.hk _).1 hm
     have hT:=(h.hT _ hk.1 hk.2).1
     have ans:=WQ hT Aa m
     have e1:(VO (GU s.m (m 3)).1 (GU s.m (m 3)).2.1 (GU s.m (m 3)).2.2.1 (GU s.m (m 3)).2.2.2.1 (GU s.m (m 3)).2.2.2.2.1 (GU s.m (m 3)).2.2.2.2.2.1 (GU s.m (m 3)).2.2.2.2.2.2.1 (GU s.m (m 3)).2.2.2.2.2.2.2.1 (GU s.m (m 3)).2.2.2.2.2.2.2.2.1 (GU s.m (m 3)).2.2.2.2.2.2.2.2.2.1 (GU s.m (m 3)).2.2.2.2.2.2.2.2.2.2.1 (GU s.m (m 3)).2.2.2.2.2.2.2.2.2.2.2) m=NL (GU s.m (m 3)) m:=rfl
     rw[e1] at ans
     have hsl:=Ye h (NL (GU s.m (m 3)) m).1
     obtain⟨k1,k2⟩:=PH h hn c (NL (GU s.m (m 3)) m).1
     by_cases k2':m 0=2
     .simp only[Ae k2']
      unfold Rj evG Afo
      rw[ans.2,Ae k2']
      by_cases hz:(NL (GU s.m (m 3)) m).2=0
      .simp only[Ae hz]
       rw[k2]
       exact⟨⟨ans.1,k1,by dsimp only;omega,trivial⟩,rfl⟩
      .simp only[Af hz]
       exact⟨⟨ans.1,trivial⟩,trivial⟩
     .simp only[Af k2']
      by_cases k3:m 0=3
      .simp only[Ae k3]
       unfold Rj evG Afo
       rw[ans.2,Af k2']
       by_cases hz:(NL (GU s.m (m 3)) m).2=0
       .simp only[Ae hz]
        rw[k2]
        exact⟨⟨ans.1,k1,by dsimp only;omega,trivial⟩,rfl⟩
       .simp only[Af hz]
        exact⟨⟨ans.1,trivial⟩,trivial⟩
      .simp only[Af k3]
       by_cases k5:m 0=5
       .simp only[Ae k5]
        have vt:=Ac9 hT Aa m
        have e1:(O9 (GU s.m (m 3)).1 (GU s.m (m 3)).2.1 (GU s.m (m 3)).2.2.1 (GU s.m (m 3)).2.2.2.1 (GU s.m (m 3)).2.2.2.2.1 (GU s.m (m 3)).2.2.2.2.2.1 (GU s.m (m 3)).2.2.2.2.2.2.1 (GU s.m (m 3)).2.2.2.2.2.2.2.1 (GU s.m (m 3)).2.2.2.2.2.2.2.2.1 (GU s.m (m 3)).2.2.2.2.2.2.2.2.2.1 (GU s.m (m 3)).2.2.2.2.2.2.2.2.2.2.1 (GU s.m (m 3)).2.2.2.2.2.2.2.2.2.2.2) m=KQ (GU s.m (m 3)) m:=rfl
        rw[e1] at vt
        unfold TA
        rw[vt.2]
        by_cases hz:(KQ (GU s.m (m 3)) m).2.2=0
        .simp only[Ae hz]
         obtain⟨k1,k2⟩:=PH h hn c (KQ (GU s.m (m 3)) m).1
         rw[k2]
         exact⟨⟨vt.1,k1,trivial⟩,rfl⟩
        .simp only[Af hz]
         exact⟨⟨vt.1,trivial⟩,trivial⟩
       .simp only[Af k5]
        by_cases k7:m 0=7
        .simp only[Ae k7]
         have at_:=Afg hT Aa m
         have e1:(VQ (GU s.m (m 3)).1 (GU s.m (m 3)).2.1 (GU s.m (m 3)).2.2.1 (GU s.m (m 3)).2.2.2.1 (GU s.m (m 3)).2.2.2.2.1 (GU s.m (m 3)).2.2.2.2.2.1 (GU s.m (m 3)).2.2.2.2.2.2.1 (GU s.m (m 3)).2.2.2.2.2.2.2.1 (GU s.m (m 3)).2.2.2.2.2.2.2.2.1 (GU s.m (m 3)).2.2.2.2.2.2.2.2.2.1 (GU s.m (m 3)).2.2.2.2.2.2.2.2.2.2.1 (GU s.m (m 3)).2.2.2.2.2.2.2.2.2.2.2) m=QA (GU s.m (m 3)) m:=rfl
         rw[e1] at at_
         unfold Y9
         rw[at_.2]
         by_cases hz:(QA (GU s.m (m 3)) m).2=0
         .simp only[Ae hz]
          obtain⟨k1,k2⟩:=PH h hn c (QA (GU s.m (m 3)) m).1
          rw[k2]
          exact⟨⟨at_.1,k1,trivial⟩,rfl⟩
         .simp only[Af hz]
          exact⟨⟨at_.1,trivial⟩,trivial⟩
        .simp only[Af k7]
         by_cases k9:m 0=9
         .simp only[Ae k9]
          obtain⟨k1,k2⟩:=N8 h hn c (m 3) 5 (l:=[1,2]) Ad Ad
          rw[k2]
          exact⟨⟨k1,trivial⟩,rfl⟩
         .simp only[Af k9]
          by_cases D8:m 0=10
          .simp only[Ae D8]
           obtain⟨w1,w2⟩:=YC h hn c m
           rw[w2]
           exact⟨⟨w1,trivial⟩,rfl⟩
          .simp only[Af D8]
           exact⟨trivial,trivial⟩
    .simp only[Af hm]
     exact⟨trivial,trivial⟩
 .have h0:Js m=5:=by rw[Yv,Af h1]
  rw[Af h1,h0]
  exact⟨by rw[Af Ab];trivial,rfl⟩
end
end Go.E
namespace Go.E
open Go
section
variable {N:Int} {n:Nat} {s:KS}
theorem Afn (h:KI N n s) (e:Nat->Int):KI N (n+1) (Afo s e):=h.ext e
theorem ZH (h:KI N n s) (pr:Bool) (m:Nat->Int):KI N (n+1) (JE pr s m).2:=by
 have h':=h.mono (Nat.le_succ n)
 unfold JE
 by_cases h1:pr=true
 .rw[Ae h1]
  by_cases h2:K3 m (Nu s.m)=true
  .rw[Ae h2]
   by_cases h3:Nb m=true
   .rw[Ae h3];exact Mu h _ _ Ad
   .rw[Af h3]
    split
    .exact h'
    .split <;> exact h'
  .rw[Af h2];exact h'
 .rw[Af h1];exact h'
theorem AbJ (h:KI N n s) (pr:Bool) (m:Nat->Int):KI N (n+1) (L0 pr s m).2:=by
 unfold L0
 split
 .exact h.mono (Nat.le_succ n)
 .exact Mu h _ _ Ad
theorem AcF (h:KI N n s) (pr:Bool) (m:Nat->Int):KI N (n+2) (L8 pr s m).2:=by
 have h':=h.mono (show n<=n+2 by omega)
 unfold L8
 by_cases zJ:m 0=11
 .rw[Ae zJ];exact(ZH h pr m).mono Aa
 .rw[Af zJ]
  by_cases hm:KZ HT s.m (m 3)=true
  .rw[Ae hm]
   have hk:=(h.hk _).1 hm
   obtain⟨hT,hx⟩:=h.hT _ hk.1 hk.2
   have ansL:KI N (n+2) (Rj s m).2:=by
    unfold Rj
    by_cases hz:(NL (GU s.m (m 3)) m).2=0
    .rw[Ae hz]
     refine Afn (h.put (AbA hT m) ?_ ?_) _
     .show 1<=(NL (GU s.m (m 3)) m).1.1;rw[VN,hx];exact hk.1
     .show(NL (GU s.m (m 3)) m).1.1<=s.la;rw[VN,hx];exact hk.2
    .rw[Af hz];exact h'
   have voteL:KI N (n+2) (TA s m).2:=by
    unfold TA
    by_cases hz:(KQ (GU s.m (m 3)) m).2.2=0
    .rw[Ae hz]
     refine(h.put (XZ hT m) ?_ ?_).mono Aa
     .show 1<=(KQ (GU s.m (m 3)) m).1.1;rw[T1,hx];exact hk.1
     .show(KQ (GU s.m (m 3)) m).1.1<=s.la;rw[T1,hx];exact hk.2
    .rw[Af hz];exact h'
   have ackL:KI N (n+2) (Y9 s m).2:=by
    unfold Y9
    by_cases hz:(QA (GU s.m (m 3)) m).2=0
    .rw[Ae hz]
     refine(h.put (AbC hT m) ?_ ?_).mono Aa
     .show 1<=(QA (GU s.m (m 3)) m).1.1;rw[XN,hx];exact hk.1
     .show(QA (GU s.m (m 3)) m).1.1<=s.la;rw[XN,hx];exact hk.2
    .rw[Af hz];exact h'
   split
   .exact ansL
   .split
    .exact ansL
    .split
     .exact voteL
     .split
      .exact ackL
      .split
       .exact(Mu h _ _ Ad).mono Aa
       .split
        .exact(AbJ h pr m).mono Aa
        .exact h'
  .rw[Af hm];exact h'
theorem Z5 (h:KI N n s) (sh:Int) (pr:Bool) (m:Nat->Int):KI N (n+2) (IB sh pr s m).2.2:=by
 unfold IB
 split
 .split
  .exact h.mono Aa
  .exact AcF h pr m
 .exact h.mono Aa
end
def Im (l:List Int) (p:LM×KS):LM×KS:=l.foldl (fun p tx=>(p.1++(HC p.2 tx 5 [1]).1,(HC p.2 tx 5 [1]).2.2)) p
def AeR (t:TT) (b:Bool):LM:=Rl t.1 t.2.1 t.2.2.2.1 t.2.2.2.2.1 t.2.2.2.2.2.1 t.2.2.2.2.2.2.1 t.2.2.2.2.2.2.2.1 t.2.2.2.2.2.2.2.2.1 t.2.2.2.2.2.2.2.2.2.1 t.2.2.2.2.2.2.2.2.2.2.1 b
def J8 (s:KS) (k:Int):LM:=AeR (GU s.m k) (Jd s.cl (L9 s.cl k))
def Jn (c:Nat->Int) (s:KS):LM×KS:=Im (HU s.cl (s.ti+1) (c 2)) ([],{s with ti:=s.ti+1})
def Kd (c:Nat->Int) (s:KS):LM×KS:=
 if(s.ti+1).tmod (c 3)=0 then((Jn c s).1++(Hu (Jn c s).2.m).flatMap (J8 (Jn c s).2),(Jn c s).2) else Jn c s
section
variable {N:Int} {n:Nat} {s:KS}
theorem KN (s:KS) (tx re:Int) (l:List Int):(HC s tx re l).2.2.ti=s.ti/\(HC s tx re l).2.2.la=s.la:=by
 unfold HC Lb
 split
 .split
  .exact Ot _ _
  .exact⟨rfl,rfl⟩
 .exact⟨rfl,rfl⟩
theorem O8 (h:KI N n s) (tx re:Int) {l:List Int} (hl:∀ x∈l,1<=x):(HC s tx re l).1.length<=64:=by
 unfold HC
 by_cases hm:(GU s.m tx).2.1∈l
 .rw[Ae hm]
  have hk:1<=tx/\tx<=s.la:=by
   rcases Classical.em (1<=tx/\tx<=s.la) with hk | hk
   .exact hk
   .rw[h.at0 hk] at hm
    have:=hl _ hm
    exact absurd (show(1:Int)<=0 from this) Ab
  have hT:=(h.hT _ hk.1 hk.2).1
  have:=TI.lto hT
  have h2:(IK (GU s.m tx) re).2.1.length<=64:=by
   unfold IK Le
   split
   .split
    .exact Nat.zero_le _
    .rw[List.length_map];exact this
   .exact Nat.zero_le _
  unfold Lb
  split
  .exact h2
  .exact Nat.zero_le _
 .rw[Af hm];exact Nat.zero_le _
theorem Mt (h:KI N n s) (l:List Int) (out:LM):KI N (n+l.length) (Im l (out,s)).2/\(Im l (out,s)).1.length<=out.length+64*l.length/\(Im l (out,s)).2.ti=s.ti/\(Im l (out,s)).2.la=s.la:=by
 induction l generalizing n s out with
 | nil=>exact⟨h,by simp[Im],rfl,rfl⟩
 | cons a l ih=>
  have h1:=Mu h a 5 (l:=[1]) Ad
  have h2:=O8 h a 5 (l:=[1]) Ad
  have h3:=KN s a 5 [1]
  obtain⟨i1,i2,i3,i4⟩:=ih h1 (out++(HC s a 5 [1]).1)
  have e:Im (a::l) (out,s)=Im l (out++(HC s a 5 [1]).1,(HC s a 5 [1]).2.2):=rfl
  rw[e,List.length_cons]
  rw[List.length_append] at i2
  exact⟨i1.mono Aa,Aa,i3.trans h3.1,i4.trans h3.2⟩
theorem ZT (l:List Int) (a:Int) (p:LM×KS):Im (l++[a]) p=((Im l p).1++(HC (Im l p).2 a 5 [1]).1,(HC (Im l p).2 a 5 [1]).2.2):=by
 unfold Im
 rw[List.foldl_append]
 rfl
theorem Ob (c:Nat->Int) (now span:Int):(HU c now span).length<=9:=by
 unfold HU
 split
 .exact Nat.zero_le _
 .rw[Acm];exact S2 _ _ _ _
theorem KI.later (h:KI N n s):KI N (n+1) {s with ti:=s.ti+1}:=
 let h':=h.mono (Nat.le_succ n)
 {h' with
  hc:=h.hc
  ht:=by have:=h.ht;show 0<=s.ti+1/\s.ti+1<=_;omega}
theorem Rx (h:KI N n s) (c:Nat->Int):KI N (n+10) (Jn c s).2/\(Jn c s).1.length<=576/\(Jn c s).2.ti=s.ti+1/\(Jn c s).2.la=s.la:=by
 have hl:=Ob s.cl (s.ti+1) (c 2)
 obtain⟨h1,h2,h3,h4⟩:=Mt h.later (HU s.cl (s.ti+1) (c 2)) []
 exact⟨h1.mono Aa,by rw[List.length_nil] at h2;show(Im _ _).1.length<=_;omega,h3,h4⟩
theorem T6 (c:Nat->Int) (s:KS):(Kd c s).2=(Jn c s).2:=by
 unfold Kd
 split <;> rfl
theorem Adc (h:KI N n s) (c:Nat->Int):KI N (n+10) (Kd c s).2:=by
 rw[T6];exact(Rx h c).1
theorem O6 (h:KI N n s) {k:Int} (h1:1<=k/\k<=s.la):(J8 s k).length<=65:=by
 have hT:=(h.hT k h1.1 h1.2).1
 have hl:=TI.lto hT
 have l1:=Qm (GU s.m k).2.2.2.2.2.2.2.2.1 (GU s.m k).2.2.2.2.2.2.2.2.2.1
 have l2:=Qm (GU s.m k).2.2.2.2.2.2.2.2.1 (GU s.m k).2.2.2.2.2.2.2.2.2.2.1
 unfold J8 AeR Rl
 split
 .rw[List.length_append]
  split <;> split <;> simp <;> omega
 .split
  .rw[List.length_map];omega
  .split
   .rw[List.length_map];omega
   .split
    .rw[List.length_map];omega
    .exact Nat.zero_le _
end
def Kn (c cl:Nat->Int) (ti la:Int) (m:TM) (tr:LM):LM×Int×TM×LM×NI:=
 ((Kd c ⟨cl,ti,la,m,tr⟩).1,ti+1,(Kd c ⟨cl,ti,la,m,tr⟩).2.m,(Kd c ⟨cl,ti,la,m,tr⟩).2.tr,(Kd c ⟨cl,ti,la,m,tr⟩).2.cl)
def Aa7 (c cl:Nat->Int) (ti la:Int) (m:TM) (tr:LM):Prop:=(∃ N n,KI N n ⟨cl,ti,la,m,tr⟩/\n<=90000)/\c 3≠0
theorem Aea {c cl:Nat->Int} {ti la:Int} {m:TM} {tr:LM} (hP:Aa7 c cl ti la m tr):Xj c cl ti la m tr (Kn c cl ti la m tr):=by
 obtain⟨⟨N,n,h,hn⟩,h3⟩:=hP
 generalize hs:(⟨cl,ti,la,m,tr⟩:KS)=s at h
 obtain rfl:cl=s.cl:=by rw[<- hs]
 obtain rfl:ti=s.ti:=by rw[<- hs]
 obtain rfl:la=s.la:=by rw[<- hs]
 obtain rfl:m=s.m:=by rw[<- hs]
 obtain rfl:tr=s.tr:=by rw[<- hs]
 clear hs
 have ht:=h.ht
 have hll:=Ob s.cl (s.ti+1) (c 2)
 have hL:=h.later
 refine⟨by unfold GN;omega,h.hc.si,((Jn c s).1,(Jn c s).2.cl,(Jn c s).2.m,(Jn c s).2.tr),?_,?_⟩
 .generalize hl:HU s.cl (s.ti+1) (c 2)=l at hll
  have et:Jn c s=Im l ([],{s with ti:=s.ti+1}):=by unfold Jn;rw[hl]
  rw[et]
  have hf:∀ k:Nat,k<l.length->LW c s.cl s.ti s.la (Im (l.take k) ([],{s with ti:=s.ti+1})).1 (k:Int) (Im (l.take k) ([],{s with ti:=s.ti+1})).2.cl (Im (l.take k) ([],{s with ti:=s.ti+1})).2.m (Im (l.take k) ([],{s with ti:=s.ti+1})).2.tr
    (.inl ((Im (l.take (k+1)) ([],{s with ti:=s.ti+1})).1,((k+1:Nat):Int),(Im (l.take (k+1)) ([],{s with ti:=s.ti+1})).2.cl,(Im (l.take (k+1)) ([],{s with ti:=s.ti+1})).2.m,(Im (l.take (k+1)) ([],{s with ti:=s.ti+1})).2.tr)):=by
   intro k hk
   obtain⟨i1,i2,i3,i4⟩:=Mt hL (l.take k) []
   have htl:(l.take k).length=k:=by rw[List.length_take];omega
   rw[htl] at i1 i2
   rw[List.length_nil] at i2
   have e:((k+1:Nat):Int)=(k:Int)+1:=Aa
   rw[Mo hk,ZT,e]
   generalize Im (l.take k) ([],{s with ti:=s.ti+1})=p at i1 i2 i3 i4 ⊢
   obtain⟨k1,k2⟩:=N8 i1 Aa c l[k]! 5 (l:=[1]) Ad Ad
   have a1:=O8 i1 l[k]! 5 (l:=[1]) Ad
   have i3':p.2.ti=s.ti+1:=i3
   have i4':p.2.la=s.la:=i4
   rw[i3',i4'] at k1 k2
   unfold LW
   rw[hl,Ae Aa,Int.toNat_natCast,k2]
   exact⟨⟨Aa,Aa⟩,k1,by dsimp only;omega,by unfold GN;omega,rfl⟩
  have:=Wh.fold (f:=fun(s_:LM×Int×NI×TM×LM) o=>LW c s.cl s.ti s.la s_.1 s_.2.1 s_.2.2.1 s_.2.2.2.1 s_.2.2.2.2 o) l.length
   (fun k=>((Im (l.take k) ([],{s with ti:=s.ti+1})).1,(k:Int),(Im (l.take k) ([],{s with ti:=s.ti+1})).2.cl,(Im (l.take k) ([],{s with ti:=s.ti+1})).2.m,(Im (l.take k) ([],{s with ti:=s.ti+1})).2.tr))
   ((Im l ([],{s with ti:=s.ti+1})).1,(Im l ([],{s with ti:=s.ti+1})).2.cl,(Im l ([],{s with ti:=s.ti+1})).2.m,(Im l ([],{s with ti:=s.ti+1})).2.tr) hf (by
   show LW c s.cl s.ti s.la _ (l.length:Int) _ _ _ _
   unfold LW
   rw[hl,Af Aa,List.take_length])
  exact this
 .obtain⟨i1,i2,i3,i4⟩:=Rx h c
  unfold Kn Qo Kd
  refine⟨h3,?_⟩
  dsimp only
  by_cases hz:(s.ti+1).tmod (c 3)=0
  .rw[Ae hz]
   simp only[Ae hz]
   refine⟨⟨i1.skP Aa,trivial⟩,(Jn c s).1++(Hu (Jn c s).2.m).flatMap (J8 (Jn c s).2),?_,rfl⟩
   generalize Jn c s=p at i1 i2 i3 i4 ⊢
   have hlen:(Hu p.2.m).length<=100000:=by have:=i1.hl;rw[S6,i1.len];omega
   have hlt:∀ k:Nat,k<=(Hu p.2.m).length->(((Hu p.2.m).take k).flatMap (J8 p.2)).length<=65*k:=by
    intro k
    induction k with
    | zero=>intro _;simp
    | succ k ih=>
     intro hk
     rw[Mo Aa,List.flatMap_append,List.length_append]
     have e2:[(Hu p.2.m)[k]!].flatMap (J8 p.2)=J8 p.2 (Hu p.2.m)[k]!:=Ad
     have hmem:(Hu p.2.m)[k]! ∈ Hu p.2.m:=by rw[getElem!_pos (Hu p.2.m) k Aa];exact List.getElem_mem _
     have:=O6 i1 ((i1.hk _).1 (Qk.1 hmem))
     rw[e2]
     have:=ih Aa
     omega
   have hf:∀ k:Nat,k<(Hu p.2.m).length->LV c s.ti s.la p.2.cl p.2.m p.2.tr (p.1++((Hu p.2.m).take k).flatMap (J8 p.2)) (k:Int) (.inl (p.1++((Hu p.2.m).take (k+1)).flatMap (J8 p.2),((k+1:Nat):Int))):=by
    intro k hk
    have e:((k+1:Nat):Int)=(k:Int)+1:=Aa
    have hmem:(Hu p.2.m)[k]! ∈ Hu p.2.m:=by rw[getElem!_pos (Hu p.2.m) k hk];exact List.getElem_mem _
    have oe:=(i1.hk _).1 (Qk.1 hmem)
    have hT:=(i1.hT _ oe.1 oe.2).1
    have Gg:=hlt k Aa
    have DD:=O6 i1 oe
    rw[Mo hk,List.flatMap_append,e]
    have e2:[(Hu p.2.m)[k]!].flatMap (J8 p.2)=J8 p.2 (Hu p.2.m)[k]!:=Ad
    rw[e2]
    unfold LV Hb
    rw[Ae Aa,Int.toNat_natCast]
    generalize (Hu p.2.m)[k]! = x at hmem oe hT DD ⊢
    have ec:=(Aao p.2.cl x).1
    obtain⟨g1,g2⟩:=AbU hT (Jd p.2.cl (L9 p.2.cl x))
    rw[ec]
    have e0:(H5 HT p.2.m x (0,0,0,0,false,0,(fun _=>0),0,[],[],[],[]))=GU p.2.m x:=rfl
    refine⟨⟨Aa,Aa⟩,_,rfl,?_,?_,?_,by unfold GN;omega,?_⟩
    .have hN:=i1.hc.n1
     unfold Kl
     rw[i1.hc.c0]
     refine GO (fun _=>trivial) fun hx=>?_
     simp only[Bool.or_eq_true,decide_eq_true_eq] at hx
     exact⟨⟨Aa,Aa⟩,trivial⟩
    .rw[e0];exact g1
    .rw[e0,g2]
     have:(J8 p.2 x).length=(Rl (GU p.2.m x).1 (GU p.2.m x).2.1 (GU p.2.m x).2.2.2.1 (GU p.2.m x).2.2.2.2.1 (GU p.2.m x).2.2.2.2.2.1 (GU p.2.m x).2.2.2.2.2.2.1 (GU p.2.m x).2.2.2.2.2.2.2.1 (GU p.2.m x).2.2.2.2.2.2.2.2.1 (GU p.2.m x).2.2.2.2.2.2.2.2.2.1 (GU p.2.m x).2.2.2.2.2.2.2.2.2.2.1 (Jd p.2.cl (L9 p.2.cl x))).length:=rfl
     rw[<- this,List.length_append]
     omega
    .rw[e0,g2,List.append_assoc]
     rfl
   have:=Wh.fold (f:=fun(s_:LM×Int) o=>LV c s.ti s.la p.2.cl p.2.m p.2.tr s_.1 s_.2 o) (Hu p.2.m).length (fun k=>(p.1++((Hu p.2.m).take k).flatMap (J8 p.2),(k:Int))) (p.1++(Hu p.2.m).flatMap (J8 p.2)) hf (by
    show LV c s.ti s.la p.2.cl p.2.m p.2.tr _ ((Hu p.2.m).length:Int) _
    unfold LV Hb
    rw[Af Aa,List.take_length])
   simp only[List.take_zero,List.flatMap_nil,List.append_nil] at this
   exact this
  .rw[Af hz]
   simp only[Af hz]
end Go.E
namespace Go.E
open Go
def Tv:Bool:=true
def Uu (N:Int):KS:=⟨Gq (fun _=>0) 0 N,0,0,[],[]⟩
theorem Aaw:Qy Tv:=by
 unfold Qy
 rw[Ae Ab,Ae Ab,Ae Ab,Ae Ab,Ae Ab,Ae Ab]
 generalize hcf:(Gq (Gq (Gq (Gq (Gq (Gq (Gq (fun _=>0) 0 2) 1 (bI false)) 2 5) 3 3) 4 40) 5 6) 6 1000:Nat->Int)=cf
 have Fj:cf 0=2:=by rw[<- hcf];rfl
 have i0:KI 2 0 (Uu 2):=KI.start Aa
 obtain⟨p1,q1⟩:=Th i0 Aa cf 1
 change K6 cf (Gq (fun _=>0) 0 2) 0 0 [] [] 1 at p1
 change GT cf (Gq (fun _=>0) 0 2) 0 0 [] [] 1=_ at q1
 have i1:=Tr i0 Aa 1
 have e1:(HZ 2 (Uu 2) 1).1=1/\(HZ 2 (Uu 2) 1).2.1=0/\(HZ 2 (Uu 2) 1).2.2.ti=0:=⟨rfl,rfl,rfl⟩
 generalize ju:(HZ 2 (Uu 2) 1).2.2=s1 at i1 q1 e1
 rw[q1]
 dsimp only
 rw[e1.1,e1.2.1,Ae rfl,Ae rfl]
 obtain⟨p2,q2⟩:=U6 i1 Aa cf Aa 1 (Gq (fun _=>0) 0 3) 4
 rw[e1.2.2] at p2
 rw[e1.2.2,Fj] at q2
 have i2:=Yz i1 2 1 (Gq (fun _=>0) 0 3) 4
 have e2:(IT 2 2 s1 1 (Gq (fun _=>0) 0 3) 4).2.1=0/\(IT 2 2 s1 1 (Gq (fun _=>0) 0 3) 4).2.2.ti=0/\(IT 2 2 s1 1 (Gq (fun _=>0) 0 3) 4).2.2.la=s1.la:=by
  rw[<- ju];exact⟨by decide +kernel,by decide +kernel,by decide +kernel⟩
 have m2:QY (IT 2 2 s1 1 (Gq (fun _=>0) 0 3) 4).1 ([(Gq (GX (Gq (Gq (Gq (Gq (fun _=>0) 0 1) 2 1) 3 1) 4 1) 5 2 (Gq (fun _=>0) 0 3)) 7 4)])=true/\(IT 2 2 s1 1 (Gq (fun _=>0) 0 3) 4).1.length=1:=by
  rw[<- ju];exact⟨by decide +kernel,by decide +kernel⟩
 have c2:(Ia 2 (IT 2 2 s1 1 (Gq (fun _=>0) 0 3) 4).2.2 1).2.1=8:=by
  rw[<- ju];decide +kernel
 generalize (IT 2 2 s1 1 (Gq (fun _=>0) 0 3) 4)=r2 at i2 q2 e2 m2 c2
 rw[q2]
 dsimp only
 rw[e2.1,Ae rfl,Ae m2.1]
 obtain⟨p3,q3⟩:=Q0 i2 Aa cf 1
 rw[e2.2.1,e2.2.2] at p3 q3
 refine⟨p1,p2,p3,?_,?_⟩
 .unfold SZ;omega
 .rw[q3]
  dsimp only
  rw[c2]
  rfl
end Go.E
namespace Go.E
open Go
def LG (bu za:NI) (zc zd:Int) (zf:UM) (zb:LM) (a1:NI):LM×Int×Int×Int×Int×UM×LM×NI:=
 if a1 0=0 then
  ((Ih bu za zc zd zf zb (a1 1) (fun i=>a1 (2+i)) (a1 4)).1,0,(Hp ((Ih bu za zc zd zf zb (a1 1) (fun i=>a1 (2+i)) (a1 4)).2.1)),zc,zd,(Ih bu za zc zd zf zb (a1 1) (fun i=>a1 (2+i)) (a1 4)).2.2.1,(Ih bu za zc zd zf zb (a1 1) (fun i=>a1 (2+i)) (a1 4)).2.2.2.1,(Ih bu za zc zd zf zb (a1 1) (fun i=>a1 (2+i)) (a1 4)).2.2.2.2)
 else
  if a1 0=1 then
   ((IA bu za zc zd zf zb (a1 1)).1,0,(Hp ((IA bu za zc zd zf zb (a1 1)).2.1)),zc,zd,(IA bu za zc zd zf zb (a1 1)).2.2.1,(IA bu za zc zd zf zb (a1 1)).2.2.2.1,(IA bu za zc zd zf zb (a1 1)).2.2.2.2)
  else
   if a1 0=2 then
    ((IP bu za zc zd zf zb (a1 1)).1,0,(Hp ((IP bu za zc zd zf zb (a1 1)).2.1)),zc,zd,(IP bu za zc zd zf zb (a1 1)).2.2.1,(IP bu za zc zd zf zb (a1 1)).2.2.2.1,(IP bu za zc zd zf zb (a1 1)).2.2.2.2)
   else
    if a1 0=3 then
     ([],0,(Hp ((K5 bu za zc zd zf zb (a1 1)).1)),zc,zd,zf,(K5 bu za zc zd zf zb (a1 1)).2.1,(K5 bu za zc zd zf zb (a1 1)).2.2)
    else
     if a1 0=4 then
      ([],(GT bu za zc zd zf zb (a1 1)).1,(Hp ((GT bu za zc zd zf zb (a1 1)).2.1)),zc,(GT bu za zc zd zf zb (a1 1)).2.2.1,(GT bu za zc zd zf zb (a1 1)).2.2.2.1,(GT bu za zc zd zf zb (a1 1)).2.2.2.2.1,(GT bu za zc zd zf zb (a1 1)).2.2.2.2.2)
     else
      if a1 0=5 then
       ((IN bu za zc zd zf zb (fun i=>a1 (5+i))).1,0,(Hp ((IN bu za zc zd zf zb (fun i=>a1 (5+i))).2.1)),zc,zd,(IN bu za zc zd zf zb (fun i=>a1 (5+i))).2.2.1,(IN bu za zc zd zf zb (fun i=>a1 (5+i))).2.2.2.1,(IN bu za zc zd zf zb (fun i=>a1 (5+i))).2.2.2.2)
      else
       if a1 0=6 then
        ((Kn bu za zc zd zf zb).1,0,(Hp 0),(Kn bu za zc zd zf zb).2.1,zd,(Kn bu za zc zd zf zb).2.2.1,(Kn bu za zc zd zf zb).2.2.2.1,(Kn bu za zc zd zf zb).2.2.2.2)
       else
        ([],0,(Hp 0),zc,zd,zf,zb,za)
def O7 (bu za:NI) (zc zd:Int) (zf:UM) (zb:LM) (a1:NI) (k:(LM×Int×Int×Int×Int×UM×LM×NI)->Prop:=fun _=>True):Prop:=
 if a1 0=0 then
  (RX bu za zc zd zf zb (a1 1) (fun i=>a1 (2+i)) (a1 4))/\(
  k (((Ih bu za zc zd zf zb (a1 1) (fun i=>a1 (2+i)) (a1 4)).1,0,(Hp ((Ih bu za zc zd zf zb (a1 1) (fun i=>a1 (2+i)) (a1 4)).2.1)),zc,zd,(Ih bu za zc zd zf zb (a1 1) (fun i=>a1 (2+i)) (a1 4)).2.2.1,(Ih bu za zc zd zf zb (a1 1) (fun i=>a1 (2+i)) (a1 4)).2.2.2.1,(Ih bu za zc zd zf zb (a1 1) (fun i=>a1 (2+i)) (a1 4)).2.2.2.2)))
 else
  if a1 0=1 then
   (N4 bu za zc zd zf zb (a1 1))/\(
   k (((IA bu za zc zd zf zb (a1 1)).1,0,(Hp ((IA bu za zc zd zf zb (a1 1)).2.1)),zc,zd,(IA bu za zc zd zf zb (a1 1)).2.2.1,(IA bu za zc zd zf zb (a1 1)).2.2.2.1,(IA bu za zc zd zf zb (a1 1)).2.2.2.2)))
  else
   if a1 0=2 then
    (Qq bu za zc zd zf zb (a1 1))/\(
    k (((IP bu za zc zd zf zb (a1 1)).1,0,(Hp ((IP bu za zc zd zf zb (a1 1)).2.1)),zc,zd,(IP bu za zc zd zf zb (a1 1)).2.2.1,(IP bu za zc zd zf zb (a1 1)).2.2.2.1,(IP bu za zc zd zf zb (a1 1)).2.2.2.2)))
   else
    if a1 0=3 then
     (MX bu za zc zd zf zb (a1 1))/\(
     k (([],0,(Hp ((K5 bu za zc zd zf zb (a1 1)).1)),zc,zd,zf,(K5 bu za zc zd zf zb (a1 1)).2.1,(K5 bu za zc zd zf zb (a1 1)).2.2)))
    else
     if a1 0=4 then
      (K6 bu za zc zd zf zb (a1 1))/\(
      k (([],(GT bu za zc zd zf zb (a1 1)).1,(Hp ((GT bu za zc zd zf zb (a1 1)).2.1)),zc,(GT bu za zc zd zf zb (a1 1)).2.2.1,(GT bu za zc zd zf zb (a1 1)).2.2.2.1,(GT bu za zc zd zf zb (a1 1)).2.2.2.2.1,(GT bu za zc zd zf zb (a1 1)).2.2.2.2.2)))
     else
      if a1 0=5 then
       (Qp bu za zc zd zf zb (fun i=>a1 (5+i)))/\(
       k (((IN bu za zc zd zf zb (fun i=>a1 (5+i))).1,0,(Hp ((IN bu za zc zd zf zb (fun i=>a1 (5+i))).2.1)),zc,zd,(IN bu za zc zd zf zb (fun i=>a1 (5+i))).2.2.1,(IN bu za zc zd zf zb (fun i=>a1 (5+i))).2.2.2.1,(IN bu za zc zd zf zb (fun i=>a1 (5+i))).2.2.2.2)))
      else
       if a1 0=6 then
        (Aa7 bu za zc zd zf zb)/\(
        k (((Kn bu za zc zd zf zb).1,0,(Hp 0),(Kn bu za zc zd zf zb).2.1,zd,(Kn bu za zc zd zf zb).2.2.1,(Kn bu za zc zd zf zb).2.2.2.1,(Kn bu za zc zd zf zb).2.2.2.2)))
       else
        k (([],0,(Hp 0),zc,zd,zf,zb,za))
theorem AeS {bu za zc zd zf zb a1} (hP:O7 bu za zc zd zf zb a1):O7 bu za zc zd zf zb a1 (Eq (LG bu za zc zd zf zb a1)):=Pc hP
end Go.E
namespace Go.E
open Go
def SQ (r0:NI) (r:Bool):Prop:=
 r=((((decide (0<r0 0))&&(decide (r0 0<251)))&&(decide ((-1)<r0 1)))&&(decide (r0 1<251)))
def Iy (r0:NI):Bool:=
 (((decide (0<r0 0))&&(decide (r0 0<251)))&&(decide ((-1)<r0 1)))&&(decide (r0 1<251))
theorem Oz {r0}:SQ r0 (Iy r0):=Tz
def UU (n0:Int) (r:Bool):Prop:=
 r=((decide (0<n0))&&(decide (n0<=1048576)))
def HB (n0:Int):Bool:=
 (decide (0<n0))&&(decide (n0<=1048576))
theorem IM {n0}:UU n0 (HB n0):=Tz
def Kt (m0:NI) (i8 k9:Int) (o:(Int) ⊕ ((Unit) ⊕ (Unit))):Prop:=
 if k9<i8 then
  (0<=k9/\k9<8)/\(
  (0<=i8/\i8<8)/\(
  if m0 (12+(k9.toNat*2))=m0 (12+(i8.toNat*2)) then
   o=(.inr (.inr ()))
  else
   (GN (k9+1))/\(
   o=(.inl (k9+1)))))
 else
  o=(.inr (.inl ()))
def Pv (i8:Int) (o:(Int) ⊕ ((Unit) ⊕ (Unit))):Prop:=
 (GN (i8+1))/\(
 o=(.inl (i8+1)))
def Pu (o:(Int) ⊕ ((Unit) ⊕ (Unit))):Prop:=
 o=(.inr (.inr ()))
def Ku (m0:NI) (i8:Int) (o:(Int) ⊕ ((Unit) ⊕ (Unit))):Prop:=
 if i8<8 then
  if m0 11<=i8 then
   (0<=i8/\i8<8)/\(((!(decide (m0 (12+(i8.toNat*2))=0)))=false)->0<=i8/\i8<8)/\(
   if((!(decide (m0 (12+(i8.toNat*2))=0)))||(!(decide (m0 ((12+(i8.toNat*2))+1)=0))))=true then
    o=(.inr (.inr ()))
   else
    (GN (i8+1))/\(
    o=(.inl (i8+1))))
  else
   (0<=i8/\i8<8)/\(((!((HB (m0 (12+(i8.toNat*2))))))=false)->0<=i8/\i8<8)/\(
   if((!((HB (m0 (12+(i8.toNat*2))))))||(!((HB (m0 ((12+(i8.toNat*2))+1))))))=true then
    o=(.inr (.inr ()))
   else
    ∃ x:(Unit) ⊕ (Unit),Wh (fun(s:Int) (o:(Int) ⊕ ((Unit) ⊕ (Unit)))=>Kt m0 i8 s o) (0:Int) x/\(match x with | .inl _=>Pv i8 o | .inr _=>Pu o))
 else
  o=(.inr (.inl ()))
def Px (m0:NI) (r:Bool):Prop:=
 r=((IJ 28 m0 (Gq (Gq (GX (Gq (Gq (Gq (Gq (fun _=>0) 0 (m0 0)) 1 (m0 1)) 2 (m0 2)) 11 (m0 11)) 12 16 (fun i=>m0 (12+i))) 9 (m0 9)) 10 (m0 10))))
def Pw (r:Bool):Prop:=
 r=(false)
def Qf (m0:NI) (r:Bool):Prop:=
 if((decide (m0 0<1))||(decide (11<m0 0)))=true then
  r=(false)
 else
  (GN ((m0 0)-1))/\(
  (0<=(m0 0)-1/\(m0 0)-1<(⟨#[111,98,98,111,98,111,98,111,98,98,101]⟩:ByteArray).size)/\(
  if((((decide (RD (⟨#[111,98,98,111,98,111,98,111,98,98,101]⟩:ByteArray) ((m0 0)-1)=111))&&(!(((decide (m0 1=0))&&(decide (1<=m0 2)))&&(decide (m0 2<=64)))))||((decide (RD (⟨#[111,98,98,111,98,111,98,111,98,98,101]⟩:ByteArray) ((m0 0)-1)=98))&&(!(((decide (m0 2=0))&&(decide (1<=m0 1)))&&(decide (m0 1<=64))))))||((!(((decide (m0 1=0))&&(decide (1<=m0 2)))&&(decide (m0 2<=64))))&&(!(((decide (m0 2=0))&&(decide (1<=m0 1)))&&(decide (m0 1<=64))))))=true then
   r=(false)
  else
   if m0 0=11 then
    if(((((decide (m0 11<1))||(decide (8<m0 11)))||(!((HB (m0 9)))))||(decide (m0 10<0)))||(decide (1048576<m0 10)))=true then
     r=(false)
    else
     ∃ x:(Unit) ⊕ (Unit),Wh (fun(s:Int) (o:(Int) ⊕ ((Unit) ⊕ (Unit)))=>Ku m0 s o) (0:Int) x/\(match x with | .inl _=>Px m0 r | .inr _=>Pw r)
   else
    if((HB (m0 3)))=true then
     if m0 0<=3 then
      if((HB (m0 4)))=true then
       if m0 0<=2 then
        if(((!((Iy (fun i=>m0 (5+i)))))||(decide (m0 7<1)))||(decide (4<m0 7)))=true then
         r=(false)
        else
         if m0 0=3 then
          if((decide (m0 8<1))||(decide (15<m0 8)))=true then
           r=(false)
          else
           if((decide (m0 0=5))||(decide (m0 0=6)))=true then
            if((!(decide (m0 8=0)))&&(!(decide (m0 8=1))))=true then
             r=(false)
            else
             r=((IJ 28 m0 (Gq (Gq (Gq (GX (Gq (Gq (Gq (Gq (Gq (fun _=>0) 0 (m0 0)) 1 (m0 1)) 2 (m0 2)) 3 (m0 3)) 4 (m0 4)) 5 2 (fun i=>m0 (5+i))) 7 (m0 7)) 8 (m0 8)) 8 (m0 8))))
           else
            r=((IJ 28 m0 (Gq (Gq (GX (Gq (Gq (Gq (Gq (Gq (fun _=>0) 0 (m0 0)) 1 (m0 1)) 2 (m0 2)) 3 (m0 3)) 4 (m0 4)) 5 2 (fun i=>m0 (5+i))) 7 (m0 7)) 8 (m0 8))))
         else
          if((decide (m0 0=5))||(decide (m0 0=6)))=true then
           if((!(decide (m0 8=0)))&&(!(decide (m0 8=1))))=true then
            r=(false)
           else
            if m0 0=10 then
             if((!((HB (m0 9))))||(decide (m0 3<=m0 9)))=true then
              r=(false)
             else
              r=((IJ 28 m0 (Gq (Gq (Gq (GX (Gq (Gq (Gq (Gq (Gq (fun _=>0) 0 (m0 0)) 1 (m0 1)) 2 (m0 2)) 3 (m0 3)) 4 (m0 4)) 5 2 (fun i=>m0 (5+i))) 7 (m0 7)) 8 (m0 8)) 9 (m0 9))))
            else
             r=((IJ 28 m0 (Gq (Gq (GX (Gq (Gq (Gq (Gq (Gq (fun _=>0) 0 (m0 0)) 1 (m0 1)) 2 (m0 2)) 3 (m0 3)) 4 (m0 4)) 5 2 (fun i=>m0 (5+i))) 7 (m0 7)) 8 (m0 8))))
          else
           if m0 0=10 then
            if((!((HB (m0 9))))||(decide (m0 3<=m0 9)))=true then
             r=(false)
            else
             r=((IJ 28 m0 (Gq (Gq (GX (Gq (Gq (Gq (Gq (Gq (fun _=>0) 0 (m0 0)) 1 (m0 1)) 2 (m0 2)) 3 (m0 3)) 4 (m0 4)) 5 2 (fun i=>m0 (5+i))) 7 (m0 7)) 9 (m0 9))))
           else
            r=((IJ 28 m0 (Gq (GX (Gq (Gq (Gq (Gq (Gq (fun _=>0) 0 (m0 0)) 1 (m0 1)) 2 (m0 2)) 3 (m0 3)) 4 (m0 4)) 5 2 (fun i=>m0 (5+i))) 7 (m0 7))))
       else
        if m0 0=3 then
         if((decide (m0 8<1))||(decide (15<m0 8)))=true then
          r=(false)
         else
          if((decide (m0 0=5))||(decide (m0 0=6)))=true then
           if((!(decide (m0 8=0)))&&(!(decide (m0 8=1))))=true then
            r=(false)
           else
            r=((IJ 28 m0 (Gq (Gq (Gq (Gq (Gq (Gq (Gq (fun _=>0) 0 (m0 0)) 1 (m0 1)) 2 (m0 2)) 3 (m0 3)) 4 (m0 4)) 8 (m0 8)) 8 (m0 8))))
          else
           r=((IJ 28 m0 (Gq (Gq (Gq (Gq (Gq (Gq (fun _=>0) 0 (m0 0)) 1 (m0 1)) 2 (m0 2)) 3 (m0 3)) 4 (m0 4)) 8 (m0 8))))
        else
         if((decide (m0 0=5))||(decide (m0 0=6)))=true then
          if((!(decide (m0 8=0)))&&(!(decide (m0 8=1))))=true then
           r=(false)
          else
           if m0 0=10 then
            if((!((HB (m0 9))))||(decide (m0 3<=m0 9)))=true then
             r=(false)
            else
             r=((IJ 28 m0 (Gq (Gq (Gq (Gq (Gq (Gq (Gq (fun _=>0) 0 (m0 0)) 1 (m0 1)) 2 (m0 2)) 3 (m0 3)) 4 (m0 4)) 8 (m0 8)) 9 (m0 9))))
           else
            r=((IJ 28 m0 (Gq (Gq (Gq (Gq (Gq (Gq (fun _=>0) 0 (m0 0)) 1 (m0 1)) 2 (m0 2)) 3 (m0 3)) 4 (m0 4)) 8 (m0 8))))
         else
          if m0 0=10 then
           if((!((HB (m0 9))))||(decide (m0 3<=m0 9)))=true then
            r=(false)
           else
            r=((IJ 28 m0 (Gq (Gq (Gq (Gq (Gq (Gq (fun _=>0) 0 (m0 0)) 1 (m0 1)) 2 (m0 2)) 3 (m0 3)) 4 (m0 4)) 9 (m0 9))))
          else
           r=((IJ 28 m0 (Gq (Gq (Gq (Gq (Gq (fun _=>0) 0 (m0 0)) 1 (m0 1)) 2 (m0 2)) 3 (m0 3)) 4 (m0 4))))
      else
       r=(false)
     else
      if m0 0<=2 then
       if(((!((Iy (fun i=>m0 (5+i)))))||(decide (m0 7<1)))||(decide (4<m0 7)))=true then
        r=(false)
       else
        if m0 0=3 then
         if((decide (m0 8<1))||(decide (15<m0 8)))=true then
          r=(false)
         else
          if((decide (m0 0=5))||(decide (m0 0=6)))=true then
           if((!(decide (m0 8=0)))&&(!(decide (m0 8=1))))=true then
            r=(false)
           else
            r=((IJ 28 m0 (Gq (Gq (Gq (GX (Gq (Gq (Gq (Gq (fun _=>0) 0 (m0 0)) 1 (m0 1)) 2 (m0 2)) 3 (m0 3)) 5 2 (fun i=>m0 (5+i))) 7 (m0 7)) 8 (m0 8)) 8 (m0 8))))
          else
           r=((IJ 28 m0 (Gq (Gq (GX (Gq (Gq (Gq (Gq (fun _=>0) 0 (m0 0)) 1 (m0 1)) 2 (m0 2)) 3 (m0 3)) 5 2 (fun i=>m0 (5+i))) 7 (m0 7)) 8 (m0 8))))
        else
         if((decide (m0 0=5))||(decide (m0 0=6)))=true then
          if((!(decide (m0 8=0)))&&(!(decide (m0 8=1))))=true then
           r=(false)
          else
           if m0 0=10 then
            if((!((HB (m0 9))))||(decide (m0 3<=m0 9)))=true then
             r=(false)
            else
             r=((IJ 28 m0 (Gq (Gq (Gq (GX (Gq (Gq (Gq (Gq (fun _=>0) 0 (m0 0)) 1 (m0 1)) 2 (m0 2)) 3 (m0 3)) 5 2 (fun i=>m0 (5+i))) 7 (m0 7)) 8 (m0 8)) 9 (m0 9))))
           else
            r=((IJ 28 m0 (Gq (Gq (GX (Gq (Gq (Gq (Gq (fun _=>0) 0 (m0 0)) 1 (m0 1)) 2 (m0 2)) 3 (m0 3)) 5 2 (fun i=>m0 (5+i))) 7 (m0 7)) 8 (m0 8))))
         else
          if m0 0=10 then
           if((!((HB (m0 9))))||(decide (m0 3<=m0 9)))=true then
            r=(false)
           else
            r=((IJ 28 m0 (Gq (Gq (GX (Gq (Gq (Gq (Gq (fun _=>0) 0 (m0 0)) 1 (m0 1)) 2 (m0 2)) 3 (m0 3)) 5 2 (fun i=>m0 (5+i))) 7 (m0 7)) 9 (m0 9))))
          else
           r=((IJ 28 m0 (Gq (GX (Gq (Gq (Gq (Gq (fun _=>0) 0 (m0 0)) 1 (m0 1)) 2 (m0 2)) 3 (m0 3)) 5 2 (fun i=>m0 (5+i))) 7 (m0 7))))
      else
       if m0 0=3 then
        if((decide (m0 8<1))||(decide (15<m0 8)))=true then
         r=(false)
        else
         if((decide (m0 0=5))||(decide (m0 0=6)))=true then
          if((!(decide (m0 8=0)))&&(!(decide (m0 8=1))))=true then
           r=(false)
          else
           r=((IJ 28 m0 (Gq (Gq (Gq (Gq (Gq (Gq (fun _=>0) 0 (m0 0)) 1 (m0 1)) 2 (m0 2)) 3 (m0 3)) 8 (m0 8)) 8 (m0 8))))
         else
          r=((IJ 28 m0 (Gq (Gq (Gq (Gq (Gq (fun _=>0) 0 (m0 0)) 1 (m0 1)) 2 (m0 2)) 3 (m0 3)) 8 (m0 8))))
       else
        if((decide (m0 0=5))||(decide (m0 0=6)))=true then
         if((!(decide (m0 8=0)))&&(!(decide (m0 8=1))))=true then
          r=(false)
         else
          if m0 0=10 then
           if((!((HB (m0 9))))||(decide (m0 3<=m0 9)))=true then
            r=(false)
           else
            r=((IJ 28 m0 (Gq (Gq (Gq (Gq (Gq (Gq (fun _=>0) 0 (m0 0)) 1 (m0 1)) 2 (m0 2)) 3 (m0 3)) 8 (m0 8)) 9 (m0 9))))
          else
           r=((IJ 28 m0 (Gq (Gq (Gq (Gq (Gq (fun _=>0) 0 (m0 0)) 1 (m0 1)) 2 (m0 2)) 3 (m0 3)) 8 (m0 8))))
        else
         if m0 0=10 then
          if((!((HB (m0 9))))||(decide (m0 3<=m0 9)))=true then
           r=(false)
          else
           r=((IJ 28 m0 (Gq (Gq (Gq (Gq (Gq (fun _=>0) 0 (m0 0)) 1 (m0 1)) 2 (m0 2)) 3 (m0 3)) 9 (m0 9))))
         else
          r=((IJ 28 m0 (Gq (Gq (Gq (Gq (fun _=>0) 0 (m0 0)) 1 (m0 1)) 2 (m0 2)) 3 (m0 3))))
    else
     r=(false)))
end Go.E
namespace Go.E
open Go
theorem W7 (n:Int):HB n=Pd n:=by
  simp only[HB,Pd,M3]
  rw[show decide (0<n)=decide (1<=n) from decide_eq_decide.2 Aa]
theorem Ab6 (m:Nat->Int) (i:Nat) (hi:i<8):Wh (fun(s:Int) (o:Int ⊕ (Unit ⊕ Unit))=>Kt m (i:Int) s o) 0 (if(List.range i).all (RR m i)=true then .inl () else .inr ()):=by
  refine Wh.all i (RR m i) _ _ (fun k hk hp=>?_) (fun k hk hp=>?_) ?_
  . unfold Kt
    rw[Ae Aa]
    refine⟨Aa,Aa,?_⟩
    simp only[RR,Bool.not_eq_true',decide_eq_false_iff_not] at hp
    rw[Af (by simpa using hp)]
    exact⟨Acw Aa,rfl⟩
  . unfold Kt
    rw[Ae Aa]
    refine⟨Aa,Aa,?_⟩
    simp only[RR,Bool.not_eq_false',decide_eq_true_eq] at hp
    rw[Ae (by simpa using hp)]
  . unfold Kt
    rw[Af Aa]
theorem Ab7 (m:Nat->Int):Wh (fun(s:Int) (o:Int ⊕ (Unit ⊕ Unit))=>Ku m s o) 0 (if(List.range 8).all (MH m)=true then .inl () else .inr ()):=by
  have key:∀ k:Nat,k<8->Ku m k (if MH m k=true then .inl ((k:Int)+1) else .inr (.inr ())):=by
    intro k hk
    unfold Ku
    rw[Ae Aa]
    rw[WR]
    unfold Pa
    simp only[Int.toNat_natCast,W7]
    by_cases h1:m 11<=k
    . rw[Ae h1,Ae h1]
      refine⟨Aa,fun _=>by omega,?_⟩
      simp only[Nat.add_zero]
      by_cases h2:m (12+k*2)=0
      . by_cases h3:m (12+k*2+1)=0
        . rw[Af (by simp[h2,h3]),Ae (by simp[h2];simpa [Nat.add_assoc] using h3)]
          exact⟨Acw Aa,rfl⟩
        . rw[Ae (by simp[h3]),Af (by simp[h2];simpa [Nat.add_assoc] using h3)]
      . rw[Ae (by simp[h2]),Af (by simp[h2])]
    . rw[Af h1,Af h1]
      refine⟨Aa,fun _=>by omega,?_⟩
      simp only[Nat.add_zero]
      by_cases h2:Pd (m (12+k*2))=true
      . by_cases h3:Pd (m (12+k*2+1))=true
        . have h3':M3 (m (12+(k*2+1))) 1 1048576=true:=h3
          rw[Af (by simp[h2,h3])]
          refine⟨_,Ab6 m k hk,?_⟩
          have hn:AdT m k k=(List.range k).all (RR m k):=by unfold AdT;rw[Aa2]
          by_cases h4:(List.range k).all (RR m k)=true
          . rw[Ae h4,Ae (by rw[h2,h3',hn,h4];rfl)]
            exact⟨Acw Aa,rfl⟩
          . rw[Af h4,Af (by rw[h2,h3',hn];simpa using h4)]
            rfl
        . have h3':¬ M3 (m (12+(k*2+1))) 1 1048576=true:=h3
          rw[Ae (by simp[h3]),Af (by simp[h3'])]
      . rw[Ae (by simp[h2]),Af (by simp[h2])]
  refine Wh.all 8 (MH m) _ _ (fun k hk hp=>?_) (fun k hk hp=>?_) ?_
  . have:=key k hk;rwa[Ae hp] at this
  . have:=key k hk;rwa[Af (by simp[hp])] at this
  . unfold Ku
    rw[Af Aa]
end Go.E
namespace Go.E
open Go
theorem AeJ {a b:Bool} (h:a=true↔b=true):a=b:=Bool.eq_iff_iff.2 h
theorem AdQ {a:Bool} (h:¬ a=true):a=false:=by simpa using h
theorem QV {m:Nat->Int}:Qf m (Pf m):=by
  unfold Qf
  by_cases h0:(decide (m 0<1)||decide (11<m 0))=true
  . rw[Ae h0]
    refine AdQ fun h=>?_
    have:=AdA h
    simp at h0;omega
  . rw[Af h0]
    have h1:1<=m 0/\m 0<=11:=by simp at h0;omega
    refine⟨⟨Aa,Aa⟩,⟨Aa,by show m 0-1<11;omega⟩,?_⟩
    rw[Ae3 m h1.1 h1.2]
    by_cases he:Oa m=true
    . rw[Af (by simp[he])]
      by_cases oJ:m 0=11
      . rw[Ae oJ]
        have hm:Pf m=(Pb m&&IJ 28 (TS m) (QI m)):=by
          unfold Pf S1
          rw[he,Bool.true_and]
          rw[Af Aa,Af Aa,Af Aa,Af Aa,Af Aa,Ae oJ]
        rw[hm]
        have hz:TS m=GX (Gq (Gq (Gq m 11 0) 9 0) 10 0) 12 16 (fun _=>0):=by
          unfold TS
          rw[Af Aa,Af Aa,Af Aa,Af Aa,Af Aa,Ae oJ]
        by_cases hg:(decide (m 11<1)||decide (8<m 11)||(!HB (m 9))||decide (m 10<0)||decide (1048576<m 10))=true
        . rw[Ae hg]
          refine AdQ fun h=>?_
          simp only[Bool.and_eq_true,Pb,M3,Pd,decide_eq_true_eq] at h
          rw[W7] at hg
          simp[Pd,M3] at hg
          omega
        . rw[Af hg]
          refine⟨_,Ab7 m,?_⟩
          have hp:Pb m=(List.range 8).all (MH m):=by
            unfold Pb
            rw[show MH m=Pa m from funext (WR m)]
            have:(M3 (m 11) 1 8&&Pd (m 9)&&M3 (m 10) 0 1048576)=true:=by
              rw[W7] at hg
              simp[Pd,M3] at hg ⊢
              omega
            rw[this,Bool.true_and]
          rw[hp]
          by_cases ha:(List.range 8).all (MH m)=true
          . rw[Ae ha,ha,Bool.true_and,hz]
            refine AeJ ?_
            simp only[H6,P1,Gq,GX,QI]
            simp
          . rw[Af ha,AdQ ha];rfl
      . rw[Af oJ]
        have hk:=Afs m oJ
        rw[he] at hk
        simp only[true_and] at hk
        clear h0
        simp only[W7,Iy,Nat.add_zero]
        have hkind:m 0=1∨m 0=2∨m 0=3∨m 0=4∨m 0=5∨m 0=6∨m 0=7∨m 0=8∨m 0=9∨m 0=10:=Aa
        have hf:∀ {A:Prop},(¬ A)->(Pf m=true↔A/\zt m)->Pf m=false:=fun ha h=>AdQ fun hh=>ha (h.1 hh).1
        have hg:∀ {A Z:Prop} {g:Nat->Int},(Pf m=true↔A/\zt m)->(IJ 28 m g=true↔Z/\zt m)->(A↔Z)->Pf m=IJ 28 m g:=fun h1 h2 h3=>AeJ (by rw[h1,h2,h3])
        clear h1 oJ he
        rcases hkind with e | e | e | e | e | e | e | e | e | e
        all_goals
          simp only[oth,e] at hk
          simp only[e]
          simp only[Int.reduceLE,Int.reduceEq,decide_true,decide_false,Bool.or_false,Bool.or_true,Bool.false_eq_true,if_true,if_false,reduceIte,or_false,or_true,false_or,true_or,false_and,true_and] at hk ⊢
          repeat' (refine GO (fun _=>?_) (fun _=>?_))
          all_goals first
            | (refine hf ?_ hk;simp[Pd,M3] at *;omega)
            | (refine hg (Z:=m 4=0/\m 5=0/\m 6=0/\m 7=0/\m 8=0/\m 9=0) hk ?_ ?_
               . simp only[H6,P1,Gq,GX,zt];simp[e];try omega
               . simp[Pd,M3] at *;omega)
            | (refine hg (Z:=m 5=0/\m 6=0/\m 7=0/\m 9=0) hk ?_ ?_
               . simp only[H6,P1,Gq,GX,zt];simp[e];try omega
               . simp[Pd,M3] at *;omega)
            | (refine hg (Z:=m 4=0/\m 5=0/\m 6=0/\m 7=0/\m 9=0) hk ?_ ?_
               . simp only[H6,P1,Gq,GX,zt];simp[e];try omega
               . simp[Pd,M3] at *;omega)
            | (refine hg (Z:=m 4=0/\m 5=0/\m 6=0/\m 7=0/\m 8=0) hk ?_ ?_
               . simp only[H6,P1,Gq,GX,zt];simp[e];try omega
               . simp[Pd,M3] at *;omega)
            | (refine hg (Z:=m 8=0/\m 9=0) hk ?_ ?_
               . simp only[H6,P1,Gq,GX,zt];simp[e];try omega
               . simp[Pd,M3] at *;omega)
    . rw[Ae (by simp[he])]
      unfold Pf
      rw[AdQ he];rfl
end Go.E
namespace Go.E
open Go
def Lw (a0 b1:LM) (i5:Int) (o:(Int) ⊕ ((Unit) ⊕ (Unit))):Prop:=
 if i5<(a0.length:Int) then
  (0<=i5/\i5<a0.length)/\(
  (0<=i5/\i5<b1.length)/\(
  if((IJ 7 (a0[i5.toNat]!) (b1[i5.toNat]!)))=true then
   (GN (i5+1))/\(
   o=(.inl (i5+1)))
  else
   o=(.inr (.inr ()))))
 else
  o=(.inr (.inl ()))
def Rd (r:Bool):Prop:=
 r=(true)
def Rc (r:Bool):Prop:=
 r=(false)
def R6 (a0 b1:LM) (r:Bool):Prop:=
 if(a0.length:Int)=(b1.length:Int) then
  ∃ x:(Unit) ⊕ (Unit),Wh (fun(s:Int) (o:(Int) ⊕ ((Unit) ⊕ (Unit)))=>Lw a0 b1 s o) (0:Int) x/\(match x with | .inl _=>Rd r | .inr _=>Rc r)
 else
  r=(false)
end Go.E
namespace Go.E
open Go
def N9 (a b:LM):Bool:=decide (a.length=b.length)&&(List.range a.length).all fun k=>IJ 7 (a[k]!) (b[k]!)
def R7 (a _:LM):Prop:=a.length<9000000000000000000
theorem AcC {a b:LM} (h:R7 a b):R6 a b (N9 a b):=by
 unfold R7 at h
 unfold R6 N9
 by_cases hl:a.length=b.length
 .rw[Ae Aa,decide_eq_true hl,Bool.true_and]
  have:=Wh.all (f:=fun(s:Int) (o:Int ⊕ (Unit ⊕ Unit))=>Lw a b s o) a.length (fun k=>IJ 7 (a[k]!) (b[k]!)) (.inl ()) (.inr ()) (fun k hk hp=>by
    unfold Lw
    rw[Ae Aa]
    refine⟨⟨Aa,Aa⟩,⟨Aa,Aa⟩,?_⟩
    rw[Int.toNat_natCast,Ae hp]
    exact⟨JK Aa,rfl⟩) (fun k hk hp=>by
    unfold Lw
    rw[Ae Aa]
    refine⟨⟨Aa,Aa⟩,⟨Aa,Aa⟩,?_⟩
    rw[Int.toNat_natCast,Af (by rw[hp];decide)]) (by
    unfold Lw
    rw[Af Aa])
  refine⟨_,this,?_⟩
  by_cases hall:(List.range a.length).all (fun k=>IJ 7 (a[k]!) (b[k]!))=true
  .rw[Ae hall,hall];rfl
  .rw[Af hall]
   have:(List.range a.length).all (fun k=>IJ 7 (a[k]!) (b[k]!))=false:=by simpa using hall
   rw[this];rfl
 .rw[Af Aa,decide_eq_false hl,Bool.false_and]
theorem YW (a:LM):N9 a a=true:=by
 unfold N9
 rw[decide_eq_true rfl,Bool.true_and,List.all_eq_true]
 exact fun k _=>YX
end Go.E
namespace Go.E
open Go
def OQ (a0 b1:(List Int)) (i5:Int) (o:(Int) ⊕ ((Unit) ⊕ (Unit))):Prop:=
 if i5<(a0.length:Int) then
  (0<=i5/\i5<a0.length)/\(
  (0<=i5/\i5<b1.length)/\(
  if a0[i5.toNat]! = b1[i5.toNat]! then
   (GN (i5+1))/\(
   o=(.inl (i5+1)))
  else
   o=(.inr (.inr ()))))
 else
  o=(.inr (.inl ()))
def Vg (r:Bool):Prop:=
 r=(true)
def Vf (r:Bool):Prop:=
 r=(false)
def Xt (a0 b1:(List Int)) (r:Bool):Prop:=
 if(a0.length:Int)=(b1.length:Int) then
  ∃ x:(Unit) ⊕ (Unit),Wh (fun(s:Int) (o:(Int) ⊕ ((Unit) ⊕ (Unit)))=>OQ a0 b1 s o) (0:Int) x/\(match x with | .inl _=>Vg r | .inr _=>Vf r)
 else
  r=(false)
def Lq (a0 b1:LM) (i5:Int) (o:(Int) ⊕ ((Unit) ⊕ (Unit))):Prop:=
 if i5<(a0.length:Int) then
  (0<=i5/\i5<a0.length)/\(
  (0<=i5/\i5<b1.length)/\(
  if((IJ 5 (a0[i5.toNat]!) (b1[i5.toNat]!)))=true then
   (GN (i5+1))/\(
   o=(.inl (i5+1)))
  else
   o=(.inr (.inr ()))))
 else
  o=(.inr (.inl ()))
def Q4 (r:Bool):Prop:=
 r=(true)
def Q3 (r:Bool):Prop:=
 r=(false)
def R2 (a0 b1:LM) (r:Bool):Prop:=
 if(a0.length:Int)=(b1.length:Int) then
  ∃ x:(Unit) ⊕ (Unit),Wh (fun(s:Int) (o:(Int) ⊕ ((Unit) ⊕ (Unit)))=>Lq a0 b1 s o) (0:Int) x/\(match x with | .inl _=>Q4 r | .inr _=>Q3 r)
 else
  r=(false)
def OR (l0:(List Int)) (n1 i5:Int) (o:(Int) ⊕ ((Unit) ⊕ (Unit))):Prop:=
 if i5<(l0.length:Int) then
  (0<=i5/\i5<l0.length)/\(
  if l0[i5.toNat]! = n1 then
   o=(.inr (.inr ()))
  else
   (GN (i5+1))/\(
   o=(.inl (i5+1))))
 else
  o=(.inr (.inl ()))
def Vj (r:Bool):Prop:=
 r=(false)
def Vi (r:Bool):Prop:=
 r=(true)
def Xu (l0:(List Int)) (n1:Int) (r:Bool):Prop:=
 ∃ x:(Unit) ⊕ (Unit),Wh (fun(s:Int) (o:(Int) ⊕ ((Unit) ⊕ (Unit)))=>OR l0 n1 s o) (0:Int) x/\(match x with | .inl _=>Vj r | .inr _=>Vi r)
def Lo (l0 bH:(List Int)) (i4 fS:Int) (o:(Int) ⊕ (Int)):Prop:=
 (((decide (fS<(bH.length:Int)))=true)->0<=fS/\fS<bH.length)/\(((decide (fS<(bH.length:Int)))=true)->0<=i4/\i4<l0.length)/\(
 if((decide (fS<(bH.length:Int)))&&(decide (bH[fS.toNat]! < l0[i4.toNat]!)))=true then
  (GN (fS+1))/\(
  o=(.inl (fS+1)))
 else
  o=(.inr fS))
def Nq (l0 bH:(List Int)) (i4 fS:Int) (o:((List Int)×Int) ⊕ ((List Int))):Prop:=
 (((decide (fS<(bH.length:Int)))=true)->0<=fS/\fS<bH.length)/\(((decide (fS<(bH.length:Int)))=true)->0<=i4/\i4<l0.length)/\(
 if((decide (fS<(bH.length:Int)))&&(decide (bH[fS.toNat]! = l0[i4.toNat]!)))=true then
  (GN (i4+1))/\(
  o=(.inl (bH,i4+1)))
 else
  (
   (0<=fS/\fS<=bH.length)/\(
   (0<=i4/\i4<l0.length)/\(
   (0<=fS/\fS<=bH.length)/\(
   ((0+((bH.take fS.toNat).drop 0).length)*8<=140737488355328)/\(
   ((([]++(bH.take fS.toNat).drop 0).length+1)*8<=140737488355328)/\(
   (((([]++(bH.take fS.toNat).drop 0)++[l0[i4.toNat]!]).length+((bH.take bH.length).drop fS.toNat).length)*8<=140737488355328)/\(
   True)))))))/\(
  (GN (i4+1))/\(
  o=(.inl (((([]++(bH.take fS.toNat).drop 0)++[l0[i4.toNat]!])++(bH.take bH.length).drop fS.toNat),i4+1)))))
def Lp (l0 bH:(List Int)) (i4:Int) (o:((List Int)×Int) ⊕ ((List Int))):Prop:=
 if i4<(l0.length:Int) then
  ∃ x:Int,Wh (fun(s:Int) (o:(Int) ⊕ (Int))=>Lo l0 bH i4 s o) (0:Int) x/\Nq l0 bH i4 x o
 else
  o=(.inr bH)
def Ps (bH r:(List Int)):Prop:=
 r=(bH)
def Qd (l0 r:(List Int)):Prop:=
 ∃ x:(List Int),Wh (fun(s:(List Int)×Int) (o:((List Int)×Int) ⊕ ((List Int)))=>Lp l0 s.1 s.2 o) (([],0):(List Int)×Int) x/\Ps x r
def WO (kz:Int) (r:Bool):Prop:=
 r=((decide (0<=kz))&&(decide (kz<=1099511627776)))
def Jr (kz:Int):Bool:=
 (decide (0<=kz))&&(decide (kz<=1099511627776))
theorem X6 {kz}:WO kz (Jr kz):=Tz
def QW (l0:LM) (bZ i5:Int) (o:(Int) ⊕ ((Unit) ⊕ (Int))):Prop:=
 if i5<(l0.length:Int) then
  (((decide (0<bZ))=true)->0<=i5/\i5<l0.length)/\(
  if((decide (0<bZ))&&(decide ((l0[i5.toNat]!) 0=bZ)))=true then
   (GN (i5+1))/\(
   o=(.inr (.inr (i5+1))))
  else
   (GN (i5+1))/\(
   o=(.inl (i5+1))))
 else
  o=(.inr (.inl ()))
def Qi (r:Int):Prop:=
 r=(0)
def Qh (x4 r:Int):Prop:=
 r=(x4)
def AaU (l0:LM) (bZ r:Int):Prop:=
 ∃ x:(Unit) ⊕ (Int),Wh (fun(s:Int) (o:(Int) ⊕ ((Unit) ⊕ (Int)))=>QW l0 bZ s o) (0:Int) x/\(match x with | .inl _=>Qi r | .inr x4=>Qh x4 r)
def Aeq (m0:NI) (r:Bool):Prop:=
 r=((decide (m0 0=11))&&((Pf m0)))
def QH (m0:NI):Bool:=
 (decide (m0 0=11))&&((Pf m0))
theorem Aep {m0}:Aeq m0 (QH m0):=Tz
def XK (m0:NI) (r:Bool):Prop:=
 r=((((QH m0))&&(decide (m0 9=m0 12)))&&((decide (m0 10=0))||(decide (m0 10=m0 13))))
def Sc (m0:NI):Bool:=
 (((QH m0))&&(decide (m0 9=m0 12)))&&((decide (m0 10=0))||(decide (m0 10=m0 13)))
theorem AeM {m0}:XK m0 (Sc m0):=Tz
def K4 (m0:NI) (dO:LM) (i5:Int) (fg:Bool) (k7:Int) (o:(Bool×Int) ⊕ (Bool)):Prop:=
 if k7<(dO.length:Int) then
  (((fg)=false)->0<=k7/\k7<dO.length)/\(((fg)=false)->0<=i5/\i5<8)/\(
  (GN (k7+1))/\(
  o=(.inl ((fg)||((IJ 2 (dO[k7.toNat]!) (fun i=>m0 ((12+(i5.toNat*2))+i)))),k7+1))))
 else
  o=(.inr fg)
def N2 (i5:Int) (fg:Bool) (o:(Int) ⊕ ((Unit) ⊕ (Unit))):Prop:=
 if(fg)=true then
  (GN (i5+1))/\(
  o=(.inl (i5+1)))
 else
  o=(.inr (.inr ()))
def MS (m0:NI) (dO:LM) (i5:Int) (o:(Int) ⊕ ((Unit) ⊕ (Unit))):Prop:=
 if i5<m0 11 then
  ∃ x:Bool,Wh (fun(s:Bool×Int) (o:(Bool×Int) ⊕ (Bool))=>K4 m0 dO i5 s.1 s.2 o) ((false,0):Bool×Int) x/\N2 i5 x o
 else
  o=(.inr (.inl ()))
def S5 (r:Bool):Prop:=
 r=(true)
def S4 (r:Bool):Prop:=
 r=(false)
def Ud (m0:NI) (dO:LM) (r:Bool):Prop:=
 if((QH m0))=true then
  ∃ x:(Unit) ⊕ (Unit),Wh (fun(s:Int) (o:(Int) ⊕ ((Unit) ⊕ (Unit)))=>MS m0 dO s o) (0:Int) x/\(match x with | .inl _=>S5 r | .inr _=>S4 r)
 else
  r=(false)
def Kr (m0:NI) (n3 i4:Int) (o:(Int×Int) ⊕ (Int)):Prop:=
 if i4<m0 11 then
  (0<=i4/\i4<8)/\(
  (
   if n3<m0 (12+(i4.toNat*2)) then
    (0<=i4/\i4<8)/\(
    True)
   else
    True)/\(
  (GN (i4+1))/\(
  o=(.inl ((if n3<m0 (12+(i4.toNat*2)) then m0 (12+(i4.toNat*2)) else n3),i4+1)))))
 else
  o=(.inr n3)
def Ph (n3 r:Int):Prop:=
 r=(n3)
def P6 (m0:NI) (r:Int):Prop:=
 ∃ x:Int,Wh (fun(s:Int×Int) (o:(Int×Int) ⊕ (Int))=>Kr m0 s.1 s.2 o) ((m0 12,0):Int×Int) x/\Ph x r
def Mp (r0:NI) (n1 s5 i6:Int) (o:(Int×Int) ⊕ (Int)):Prop:=
 if i6<r0 0 then
  (GN (s5+1))/\(
  (GN (i6+1))/\(
  o=(.inl ((if n1<s5+1 then 1 else s5+1),i6+1))))
 else
  o=(.inr s5)
def QP (s5 r:Int):Prop:=
 r=(s5)
def RG (r0:NI) (n1 r:Int):Prop:=
 ∃ x:Int,Wh (fun(s:Int×Int) (o:(Int×Int) ⊕ (Int))=>Mp r0 n1 s.1 s.2 o) ((0,0):Int×Int) x/\QP x r
def VI (c0:NI) (r:Bool):Prop:=
 if((decide (c0 0<1))||(decide (64<c0 0)))=true then
  r=(false)
 else
  if((decide (c0 2<1))||(decide (1000<c0 2)))=true then
   r=(false)
  else
   if((decide (c0 3<1))||(decide (1000<c0 3)))=true then
    r=(false)
   else
    if((decide (c0 4<1))||(decide (4096<c0 4)))=true then
     r=(false)
    else
     if((decide (c0 5<1))||(decide (64<c0 5)))=true then
      r=(false)
     else
      if((decide (c0 6<1))||(decide (65536<c0 6)))=true then
       r=(false)
      else
       r=(true)
def Ja (c0:NI):Bool:=
 if((decide (c0 0<1))||(decide (64<c0 0)))=true then
  false
 else
  if((decide (c0 2<1))||(decide (1000<c0 2)))=true then
   false
  else
   if((decide (c0 3<1))||(decide (1000<c0 3)))=true then
    false
   else
    if((decide (c0 4<1))||(decide (4096<c0 4)))=true then
     false
    else
     if((decide (c0 5<1))||(decide (64<c0 5)))=true then
      false
     else
      if((decide (c0 6<1))||(decide (65536<c0 6)))=true then
       false
      else
       true
theorem KL {c0}:VI c0 (Ja c0):=Tz
end Go.E
namespace Go.E
open Go
def PE (c:Nat->Int) (N:Int) (s:KS) (a:Nat->Int):KS:=
 if a 0=0 then(IT (c 0) N s (a 1) (fun i=>a (2+i)) (a 4)).2.2
 else if a 0=1 then(Ia N s (a 1)).2.2
 else if a 0=2 then(Ii N s (a 1)).2.2
 else if a 0=3 then(Jl N s (a 1)).2
 else if a 0=4 then(HZ N s (a 1)).2.2
 else if a 0=5 then(IB (c 0) (nz (c 1)) s (fun i=>a (5+i))).2.2
 else if a 0=6 then(Kd c s).2
 else s
def Af8 (c:Nat->Int) (N:Int) (s:KS) (a:Nat->Int):LM:=
 if a 0=0 then(IT (c 0) N s (a 1) (fun i=>a (2+i)) (a 4)).1
 else if a 0=1 then(Ia N s (a 1)).1
 else if a 0=2 then(Ii N s (a 1)).1
 else if a 0=5 then(IB (c 0) (nz (c 1)) s (fun i=>a (5+i))).1
 else if a 0=6 then(Kd c s).1
 else []
section
variable {N:Int} {n:Nat} {s:KS}
theorem Ys (h:KI N n s) (hn:n<=90000) (c a:Nat->Int):KI N (n+10) (PE c N s a):=by
 unfold PE
 split
 .exact(Yz h _ _ _ _).mono Aa
 .split
  .exact(Aam h _).mono Aa
  .split
   .exact(Aax h _).mono Aa
   .split
    .exact(Wz h Aa _).mono Aa
    .split
     .exact(Tr h Aa _).mono Aa
     .split
      .exact(Z5 h _ _ _).mono Aa
      .split
       .exact Adc h c
       .exact h.mono Aa
theorem Aaj {s:KS} {r:TT×LM×Int}:(Lb s r).2.2.ti=s.ti/\(Lb s r).2.2.la=s.la:=by
 unfold Lb
 split
 .exact Ot _ _
 .exact⟨rfl,rfl⟩
theorem U2 (sh N:Int) (s:KS) (id:Int) (a:Nat->Int) (m:Int):(IT sh N s id a m).2.2.ti=s.ti/\(IT sh N s id a m).2.2.la=s.la:=by
 unfold IT
 split
 .split
  .exact⟨rfl,rfl⟩
  .split
   .split
    .exact Ot _ _
    .exact⟨rfl,rfl⟩
   .exact⟨rfl,rfl⟩
 .exact⟨rfl,rfl⟩
theorem Sa (N:Int) (s:KS) (id:Int):(Ia N s id).2.2.ti=s.ti/\(Ia N s id).2.2.la=s.la:=by
 unfold Ia
 split
 .split
  .exact⟨rfl,rfl⟩
  .exact Aaj
 .exact⟨rfl,rfl⟩
theorem Sd (N:Int) (s:KS) (id:Int):(Ii N s id).2.2.ti=s.ti/\(Ii N s id).2.2.la=s.la:=by
 unfold Ii
 split
 .split
  .exact⟨rfl,rfl⟩
  .exact KN _ _ _ _
 .exact⟨rfl,rfl⟩
theorem TN (N:Int) (s:KS) (id:Int):(Jl N s id).2.ti=s.ti/\(Jl N s id).2.la=s.la/\(Jl N s id).2.m=s.m:=by
 unfold Jl
 split <;> exact⟨rfl,rfl,rfl⟩
theorem TO (N:Int) (s:KS) (id:Int):(HZ N s id).2.2.ti=s.ti:=by
 unfold HZ
 split
 .split <;> rfl
 .rfl
theorem R1 (sh:Int) (pr:Bool) (s:KS) (m:Nat->Int):(IB sh pr s m).2.2.ti=s.ti/\(IB sh pr s m).2.2.la=s.la:=by
 have ha:(Rj s m).2.ti=s.ti/\(Rj s m).2.la=s.la:=by
  unfold Rj
  split
  .exact Ot _ _
  .exact⟨rfl,rfl⟩
 unfold IB
 split
 .split
  .exact⟨rfl,rfl⟩
  .dsimp only
   unfold L8
   split
   .unfold JE
    split
    .split
     .split
      .exact KN _ _ _ _
      .split
       .exact⟨rfl,rfl⟩
       .split <;> exact⟨rfl,rfl⟩
     .exact⟨rfl,rfl⟩
    .exact⟨rfl,rfl⟩
   .split
    .split
     .exact ha
     .split
      .exact ha
      .split
       .unfold TA
        split
        .exact Ot _ _
        .exact⟨rfl,rfl⟩
       .split
        .unfold Y9
         split
         .exact Ot _ _
         .exact⟨rfl,rfl⟩
        .split
         .exact KN _ _ _ _
         .split
          .unfold L0
           split
           .exact⟨rfl,rfl⟩
           .exact KN _ _ _ _
          .exact⟨rfl,rfl⟩
    .exact⟨rfl,rfl⟩
 .exact⟨rfl,rfl⟩
theorem AeT (h:KI N n s) (hn:n<=90000) (c:Nat->Int) (hc:1<=c 0/\c 0<=64) (wr:c 3≠0) (a:Nat->Int) :
  O7 c s.cl s.ti s.la s.m s.tr a/\(LG c s.cl s.ti s.la s.m s.tr a).1=Af8 c N s a/\(LG c s.cl s.ti s.la s.m s.tr a).2.2.2=((PE c N s a).ti,(PE c N s a).la,(PE c N s a).m,(PE c N s a).tr,(PE c N s a).cl):=by
 unfold O7 LG Af8 PE
 by_cases h0:a 0=0
 .simp only[Ae h0]
  obtain⟨p,q⟩:=U6 h Aa c hc (a 1) (fun i=>a (2+i)) (a 4)
  have e:=U2 (c 0) N s (a 1) (fun i=>a (2+i)) (a 4)
  rw[q,e.1,e.2]
  exact⟨⟨p,trivial⟩,rfl,rfl⟩
 .simp only[Af h0]
  by_cases h1:a 0=1
  .simp only[Ae h1]
   obtain⟨p,q⟩:=Q0 h Aa c (a 1)
   have e:=Sa N s (a 1)
   rw[q,e.1,e.2]
   exact⟨⟨p,trivial⟩,rfl,rfl⟩
  .simp only[Af h1]
   by_cases h2:a 0=2
   .simp only[Ae h2]
    obtain⟨p,q⟩:=Vc h Aa c (a 1)
    have e:=Sd N s (a 1)
    rw[q,e.1,e.2]
    exact⟨⟨p,trivial⟩,rfl,rfl⟩
   .simp only[Af h2]
    by_cases h3:a 0=3
    .simp only[Ae h3]
     obtain⟨p,q⟩:=Wp h Aa c (a 1)
     have e:=TN N s (a 1)
     have e5:¬ a 0=5:=Aa
     have e6:¬ a 0=6:=Aa
     rw[q,e.1,e.2.1,e.2.2,Af e5,Af e6]
     exact⟨⟨p,trivial⟩,rfl,rfl⟩
    .simp only[Af h3]
     by_cases h4:a 0=4
     .simp only[Ae h4]
      obtain⟨p,q⟩:=Th h Aa c (a 1)
      have e:=TO N s (a 1)
      have e5:¬ a 0=5:=Aa
      have e6:¬ a 0=6:=Aa
      rw[q,e,Af e5,Af e6]
      exact⟨⟨p,trivial⟩,rfl,rfl⟩
     .simp only[Af h4]
      by_cases h5:a 0=5
      .simp only[Ae h5]
       obtain⟨p,q⟩:=U7 h Aa c (fun i=>a (5+i))
       have e:=R1 (c 0) (nz (c 1)) s (fun i=>a (5+i))
       rw[q,e.1,e.2]
       exact⟨⟨p,trivial⟩,rfl,rfl⟩
      .simp only[Af h5]
       by_cases h6:a 0=6
       .simp only[Ae h6]
        have e:=Rx h c
        have e2:=T6 c s
        have e3:(Kd c s).2.ti=s.ti+1:=by rw[e2];exact e.2.2.1
        have e4:(Kd c s).2.la=s.la:=by rw[e2];exact e.2.2.2
        refine⟨⟨⟨⟨N,n,h,hn⟩,wr⟩,trivial⟩,rfl,?_⟩
        rw[e3,e4]
        rfl
       .simp only[Af h6]
        exact⟨trivial,trivial,trivial⟩
theorem KI.viewP (h:KI N n s) (hn:n<=100000) (c:Nat->Int):Ue c s.cl s.ti s.la s.m s.tr:=by
 have hl:=h.hl
 have hr:=h.hr
 refine⟨h.skP hn,by rw[h.len];omega,Aa,fun k=>?_⟩
 by_cases hk:1<=k/\k<=s.la
 .have hT:=(h.hT k hk.1 hk.2).1
  have h1:=TI.lto hT
  have h2:=TI.lvo hT
  have h3:=TI.lac hT
  have h4:_<=n:=hT.hgo
  exact⟨Aa,Aa,Aa,Aa⟩
 .unfold TL
  rw[h.at0 hk]
  exact⟨Ab,Ab,Ab,Ab⟩
theorem KI.view (h:KI N n s) (c:Nat->Int):(Qn c s.cl s.ti s.la s.m s.tr).2.2.1=(List.range s.la.toNat).map fun k:Nat=>GU s.m ((k:Int)+1):=by
 unfold Qn
 dsimp only
 rw[h.keys,List.map_map]
 rfl
end
end Go.E
namespace Go.E
open Go
theorem Xr {a b:List Int} (h:PJ a b):Xt a b (JI a b):=by
 unfold PJ at h
 unfold Xt JI
 by_cases hl:a.length=b.length
 .rw[Ae Aa]
  have:=Wh.all (f:=fun(s:Int) (o:Int ⊕ (Unit ⊕ Unit))=>OQ a b s o) a.length (fun k=>decide (a[k]! = b[k]!)) (.inl ()) (.inr ()) (fun k hk hp=>by
    unfold OQ
    rw[Ae Aa]
    refine⟨⟨Aa,Aa⟩,⟨Aa,Aa⟩,?_⟩
    rw[Int.toNat_natCast,Ae (by simpa using hp)]
    exact⟨JK Aa,rfl⟩) (fun k hk hp=>by
    unfold OQ
    rw[Ae Aa]
    refine⟨⟨Aa,Aa⟩,⟨Aa,Aa⟩,?_⟩
    rw[Int.toNat_natCast,Af (by simpa using hp)]) (by
    unfold OQ
    rw[Af Aa])
  refine⟨_,this,?_⟩
  rw[Ahv hl]
  by_cases hab:a=b
  .rw[decide_eq_true hab,Ae rfl];rfl
  .rw[decide_eq_false hab,Af Ab];rfl
 .rw[Af Aa,decide_eq_false (fun e=>hl (by rw[e]))]
def M5 (a b:LM):Bool:=decide (a.length=b.length)&&(List.range a.length).all fun k=>IJ 5 (a[k]!) (b[k]!)
def R3 (a _:LM):Prop:=a.length<9000000000000000000
theorem Acz {a b:LM} (h:R3 a b):R2 a b (M5 a b):=by
 unfold R3 at h
 unfold R2 M5
 by_cases hl:a.length=b.length
 .rw[Ae Aa,decide_eq_true hl,Bool.true_and]
  have:=Wh.all (f:=fun(s:Int) (o:Int ⊕ (Unit ⊕ Unit))=>Lq a b s o) a.length (fun k=>IJ 5 (a[k]!) (b[k]!)) (.inl ()) (.inr ()) (fun k hk hp=>by
    unfold Lq
    rw[Ae Aa]
    refine⟨⟨Aa,Aa⟩,⟨Aa,Aa⟩,?_⟩
    rw[Int.toNat_natCast,Ae hp]
    exact⟨JK Aa,rfl⟩) (fun k hk hp=>by
    unfold Lq
    rw[Ae Aa]
    refine⟨⟨Aa,Aa⟩,⟨Aa,Aa⟩,?_⟩
    rw[Int.toNat_natCast,Af (by simpa using hp)]) (by
    unfold Lq
    rw[Af Aa])
  refine⟨_,this,?_⟩
  cases hh:(List.range a.length).all fun k=>IJ 5 (a[k]!) (b[k]!)
  .rw[Af Ab];rfl
  .rw[Ae rfl];rfl
 .rw[Af Aa,decide_eq_false hl];rfl
theorem YR (a:LM):M5 a a=true:=by
 unfold M5
 rw[decide_eq_true rfl,Bool.true_and,List.all_eq_true]
 exact fun k _=>H6.2 fun _ _=>rfl
def I0 (s:List Int) (v:Int):Bool:=decide (v∈s)
def M4 (s:List Int) (_:Int):Prop:=s.length<=1000000000
theorem Uh {s:List Int} {v:Int} (h:M4 s v):Xu s v (I0 s v):=by
 unfold M4 at h
 unfold Xu
 obtain⟨r,hr,h2⟩:=Wh.find (f:=fun(t:Int) (o:(Int) ⊕ ((Unit) ⊕ (Unit)))=>OR s v t o) s.length (fun k=>decide (v=s[k]!)) (.inl ()) (fun k=>.inr ()) (fun k hk hp=>by
   unfold OR
   rw[Ae Aa,Int.toNat_natCast,Af (by simpa [eq_comm] using hp)]
   exact⟨⟨Aa,Aa⟩,JK Aa,rfl⟩) (fun k hk hp=>by
   unfold OR
   rw[Ae Aa,Int.toNat_natCast,Ae (by simpa [eq_comm] using hp)]
   exact⟨⟨Aa,Aa⟩,rfl⟩) (by
   unfold OR
   rw[Af Aa])
 refine⟨r,hr,?_⟩
 rw[Tt s fun x=>decide (v=x),Abz] at h2
 rcases h2 with ⟨rfl,h2⟩ | ⟨k,hk,rfl,h2⟩
 .have:I0 s v=false:=h2
  rw[this];rfl
 .have:I0 s v=true:=h2
  rw[this];rfl
theorem UB {l:List Int} (h:ML l):Qd l (HL l):=by
 unfold ML at h
 unfold Qd
 refine⟨HL l,?_,rfl⟩
 have:=aH (f:=fun(s:(List Int)×Int) (o:((List Int)×Int) ⊕ ((List Int)))=>Lp l s.1 s.2 o) (fun k:Nat=>(HL (l.take k),(k:Int))) l.length (r:=HL l) (fun k hk=>by
   have hs:HL (l.take (k+1))=Jh (l[k]!) (HL (l.take k)):=by unfold HL;exact Z8 hk
   have hl:(HL (l.take k)).length<=1000000000:=Nat.le_trans (U5 _) (by simp;omega)
   dsimp only
   rw[hs]
   unfold Lp
   rw[Ae Aa]
   generalize HL (l.take k)=out at hl
   have hsl:=WS (l[k]!) out
   have hk':0<=(k:Int)/\(k:Int)<l.length:=⟨Aa,Aa⟩
   refine⟨(JL (l[k]!) out:Int),?_,?_⟩
   .have:=aH (f:=fun(s:Int) (o:(Int) ⊕ (Int))=>Lo l out (k:Int) s o) (fun j:Nat=>(j:Int)) (JL (l[k]!) out) (r:=(JL (l[k]!) out:Int)) (fun j hj=>by
     have:=AaM hj
     unfold Lo
     rw[Int.toNat_natCast,Int.toNat_natCast,Ae (by simp only[Bool.and_eq_true,decide_eq_true_eq];exact⟨Aa,this⟩)]
     exact⟨fun _=>⟨Aa,Aa⟩,fun _=>hk',⟨Aa,Aa⟩,rfl⟩) (by
     unfold Lo
     rw[Int.toNat_natCast,Int.toNat_natCast,Af (by
      simp only[Bool.and_eq_true,decide_eq_true_eq,not_and]
      exact fun h=>AaN Aa)]
     exact⟨fun h=>⟨Aa,by simpa using h⟩,fun _=>hk',rfl⟩)
    simpa using this
   .unfold Nq
    rw[Int.toNat_natCast,Int.toNat_natCast,Wu]
    refine⟨fun h=>⟨Aa,by simpa using h⟩,fun _=>hk',?_⟩
    by_cases hc:JL (l[k]!) out<out.length/\out[JL (l[k]!) out]! = l[k]!
    .rw[Ae (by simp only[Bool.and_eq_true,decide_eq_true_eq];exact⟨Aa,hc.2⟩),Ae hc]
     exact⟨⟨Aa,Aa⟩,rfl⟩
    .rw[Af (by simp only[Bool.and_eq_true,decide_eq_true_eq];exact fun h=>hc ⟨Aa,h.2⟩),Af hc]
     simp only[List.nil_append,List.drop_zero,RC]
     refine⟨⟨⟨Aa,Aa⟩,hk',⟨Aa,Aa⟩,?_,?_,?_,trivial⟩,⟨Aa,Aa⟩,rfl⟩
     .simp only[List.length_take];omega
     .simp only[List.length_take];omega
     .simp only[List.length_append,List.length_take,List.length_drop,List.length_singleton];omega) (by
   dsimp only
   unfold Lp
   rw[Af Aa,RC])
 simpa [HL] using this
end Go.E
namespace Go.E
open Go
theorem Z3 (m:Nat->Int):QH m=JN m:=by
 rw[Bool.eq_iff_iff,Ug]
 unfold QH
 rw[Bool.and_eq_true,decide_eq_true_eq]
def Ql (m:Nat->Int) (l:LM):Bool:=QH m&&(List.range (m 11).toNat).all fun i=>l.any fun x=>IJ 2 x (KU m i)
theorem Ad3 {m:Nat->Int} {l:LM} (hl:NE m l):Ud m l (Ql m l):=by
 unfold NE at hl
 unfold Ud Ql
 by_cases h:QH m=true
 .rw[Ae h,h,Bool.true_and]
  have hn:=YP (by rw[<- Z3];exact h)
  have inner:∀ x:Nat,x<8->Wh (fun(s:Bool×Int) (o:(Bool×Int) ⊕ Bool)=>K4 m l (x:Int) s.1 s.2 o) (false,0) (l.any fun y=>IJ 2 y (KU m x)):=by
   intro x hx
   have:=aH (f:=fun(s:Bool×Int) (o:(Bool×Int) ⊕ Bool)=>K4 m l (x:Int) s.1 s.2 o) (fun k:Nat=>((l.take k).any (fun y=>IJ 2 y (KU m x)),(k:Int))) l.length (r:=l.any fun y=>IJ 2 y (KU m x)) (fun k hk=>by
     show K4 m l (x:Int) _ _ _
     unfold K4
     rw[Ae Aa]
     refine⟨fun _=>⟨Aa,Aa⟩,fun _=>⟨Aa,Aa⟩,JK Aa,?_⟩
     rw[Int.toNat_natCast,Int.toNat_natCast,getElem!_pos l k hk,List.take_add_one,List.getElem?_eq_getElem hk,List.any_append]
     have:(some l[k]).toList.any (fun y=>IJ 2 y (KU m x))=IJ 2 l[k] (fun i=>m (12+x*2+i)):=by simp;rfl
     rw[this];rfl) (by
     show K4 m l (x:Int) _ _ _
     unfold K4
     rw[Af Aa,List.take_of_length_le (Nat.le_refl _)])
   exact this
  have:=Wh.all (f:=fun(s:Int) (o:Int ⊕ (Unit ⊕ Unit))=>MS m l s o) (m 11).toNat (fun i=>l.any fun x=>IJ 2 x (KU m i)) (.inl ()) (.inr ()) (fun k hk hp=>by
    unfold MS
    rw[Ae Aa]
    refine⟨_,inner k Aa,?_⟩
    unfold N2
    rw[Ae hp]
    exact⟨JK Aa,rfl⟩) (fun k hk hp=>by
    unfold MS
    rw[Ae Aa]
    refine⟨_,inner k Aa,?_⟩
    unfold N2
    rw[Af (by rw[hp];decide)]) (by
    unfold MS
    rw[Af Aa])
  refine⟨_,this,?_⟩
  by_cases hall:((List.range (m 11).toNat).all fun i=>l.any fun x=>IJ 2 x (KU m i))=true
  .rw[Ae hall,hall];rfl
  .rw[Af hall]
   have:((List.range (m 11).toNat).all fun i=>l.any fun x=>IJ 2 x (KU m i))=false:=by simpa using hall
   rw[this];rfl
 .rw[Af h]
  have:QH m=false:=by simpa using h
  rw[this,Bool.false_and]
theorem Acj (m:Nat->Int) (l:LM):K3 m l=Ql m l:=by
 unfold K3 Ql NB
 rw[Z3]
 congr 2
 funext i
 congr 1
 funext x
 rw[Bool.eq_iff_iff,H6,H6]
 exact⟨fun h i hi=>(h i hi).symm,fun h i hi=>(h i hi).symm⟩
theorem AcL (m:Nat->Int):Nb m=Sc m:=by
 unfold Nb Sc
 rw[Z3]
 by_cases h1:JN m=true <;> by_cases h2:m 9=m 12 <;> by_cases h3:m 10=0 <;> by_cases h4:m 10=m 13 <;> simp[h1,h2,h3,h4]
def TB (m:Nat->Int):Nat->Int
 | 0=>m 12
 | k+1=>if TB m k<m (12+k*2) then m (12+k*2) else TB m k
def I2 (m:Nat->Int):Int:=TB m (m 11).toNat
def P7 (m:Nat->Int):Prop:=m 11<=8
theorem Zm {m:Nat->Int} (hP:P7 m):P6 m (I2 m):=by
 unfold P7 at hP
 unfold P6 I2
 refine⟨TB m (m 11).toNat,?_,rfl⟩
 refine aH (fun k:Nat=>((TB m k,(k:Int)):Int×Int)) (m 11).toNat (fun k hk=>?_) ?_
 .show Kr m _ _ _
  unfold Kr
  rw[Ae Aa]
  refine⟨⟨Aa,Aa⟩,?_,JK Aa,rfl⟩
  exact GO (fun _=>⟨⟨Aa,Aa⟩,trivial⟩) fun _=>trivial
 .show Kr m _ _ _
  unfold Kr
  rw[Af Aa]
theorem X3 {m:Nat->Int} (h:1<=m 12):∀ k,1<=k->QM m k=TB m k
 | 0,hk=>by omega
 | 1,_=>by
  have a:QM m 1=m 12:=Ae (show(0:Int)<m 12 by omega)
  have b:TB m 1=m 12:=by
   show(if m 12<m (12+0*2) then m (12+0*2) else m 12)=m 12
   split <;> rfl
  rw[a,b]
 | k+2,_=>by
  have:=X3 h (k+1) Aa
  rw[QM,TB,this]
theorem Acu {m:Nat->Int} (h:JN m=true):1<=m 12:=by
 have h1:=YO h
 have hn:=YP h
 unfold Pb at h1
 simp only[Bool.and_eq_true,List.all_eq_true] at h1
 have:=h1.2 0 (List.mem_range.2 Aa)
 unfold Pa at this
 rw[Af Aa] at this
 simp only[Bool.and_eq_true] at this
 have:=this.1.1
 unfold Pd M3 at this
 simp only[Bool.and_eq_true,decide_eq_true_eq] at this
 exact this.1
end Go.E
namespace Go.E
open Go
def Acx (l:LM) (tx:Int) (j:Nat):Bool:=decide (0<tx)&&decide (l[j]! 0=tx)
def Jo (l:LM) (tx:Int):Int:=((List.range l.length).find? (Acx l tx)).elim 0 fun j=>(j:Int)+1
def UO (l:LM) (_:Int):Prop:=l.length<=1000000
theorem AdC {l:LM} {tx:Int} (h:UO l tx):AaU l tx (Jo l tx):=by
 unfold UO at h
 unfold AaU
 refine aL (f:=fun(s:Int) (o:(Int) ⊕ ((Unit) ⊕ (Int)))=>QW l tx s o) (fun s=>0<=s/\s<=l.length/\∀ j:Nat,(j:Int)<s->Acx l tx j=false) (fun s=>((l.length:Int)-s).toNat) (fun(x:(Unit) ⊕ (Int))=>match x with | .inl _=>Qi (Jo l tx) | .inr x4=>Qh x4 (Jo l tx)) ⟨by omega,by omega,fun j hj=>by omega⟩ ?_
 rintro x ⟨x0,x1,hno⟩
 by_cases hx:x<l.length
 .have hin:GN (x+1):=⟨Aa,Aa⟩
  by_cases hh:Acx l tx x.toNat=true
  .refine .inr ⟨.inr (x+1),?_,?_⟩
   .unfold QW
    rw[Ae hx,Ae (by exact hh)]
    exact⟨fun _=>⟨x0,hx⟩,hin,rfl⟩
   .show Qh _ _
    unfold Qh Jo
    rw[Abm (i:=x.toNat) Aa hh fun j hj=>hno j Aa]
    show(x.toNat:Int)+1=x+1
    omega
  .refine .inl ⟨x+1,?_,⟨Aa,Aa,fun j hj=>?_⟩,Aa⟩
   .unfold QW
    rw[Ae hx,Af (by exact hh)]
    exact⟨fun _=>⟨x0,hx⟩,hin,rfl⟩
   .by_cases hjx:(j:Int)<x
    .exact hno j hjx
    .rw[show j=x.toNat by omega]
     simpa using hh
 .refine .inr ⟨.inl (),?_,?_⟩
  .unfold QW
   rw[Af hx]
  .show Qi _
   unfold Qi Jo
   rw[Abl fun j hj=>hno j Aa]
   rfl
end Go.E
namespace Go.E
open Go
def Xe (m:Nat->Int) (l:LM):Prop:=NE m l
def TR (n:Int):Nat->Int
 | 0=>0
 | k+1=>if n<TR n k+1 then 1 else TR n k+1
def H3 (r:Nat->Int) (n:Int):Int:=TR n (r 0).toNat
def NW (r:Nat->Int) (_:Int):Prop:=r 0<=1000000
theorem AaO (n:Int):∀ k:Nat,0<=TR n k/\TR n k<=k
 | 0=>⟨Int.le_refl _,Int.le_refl _⟩
 | k+1=>by
  have:=AaO n k
  unfold TR
  split <;> constructor <;> omega
theorem AbY {r:Nat->Int} {n:Int} (h:NW r n):RG r n (H3 r n):=by
 unfold NW at h
 unfold RG H3
 refine⟨TR n (r 0).toNat,?_,rfl⟩
 refine aH (f:=fun(s:Int×Int) (o:(Int×Int) ⊕ (Int))=>Mp r n s.1 s.2 o) (fun k:Nat=>(TR n k,(k:Int))) (r 0).toNat (fun k hk=>?_) ?_
 .dsimp only
  unfold Mp
  have:=AaO n k
  rw[Ae Aa]
  exact⟨by unfold GN;omega,JK Aa,rfl⟩
 .dsimp only
  unfold Mp
  rw[Af Aa]
theorem Yd {n:Int} (hn:1<=n):∀ k:Nat,TR n (k+1)=(k:Int) % n+1
 | 0=>by
  show(if n<0+1 then(1:Int) else 0+1)=_
  simp
 | k+1=>by
  have ih:=Yd hn k
  have e:TR n (k+1+1)=if n<TR n (k+1)+1 then 1 else TR n (k+1)+1:=rfl
  rw[e,ih]
  have h1:=Int.emod_nonneg (k:Int) (b:=n) Aa
  have h2:=Int.emod_lt_of_pos (k:Int) (b:=n) Aa
  have h3:((k+1:Nat):Int) % n=((k:Int) % n+1) % n:=by rw[Int.emod_add_emod];congr 1
  rw[h3]
  by_cases h:(k:Int) % n+1=n
  .rw[Ae Aa,h,Int.emod_self];rfl
  .rw[Af Aa,Int.emod_eq_of_lt (a:=(k:Int) % n+1) (b:=n) Aa Aa]
theorem Zx {a:Nat->Int} {n:Int} (hn:1<=n) (ha:1<=a 0):H3 a n=(a 0-1).tmod n+1:=by
 unfold H3
 obtain⟨k,hk⟩:∃ k:Nat,a 0=(k:Int)+1:=⟨(a 0-1).toNat,Aa⟩
 rw[hk,show((k:Int)+1).toNat=k+1 by omega,Yd hn,Int.add_sub_cancel,Int.tmod_eq_emod_of_nonneg Aa]
end Go.E
namespace Go.E
open Go
def Hw (l0:(List Int)) (n1:Int):(List Int):=
 (HL (([]++l0)++[n1]))
def Mc (l0:(List Int)) (n1:Int) (k:((List Int))->Prop:=fun _=>True):Prop:=
 ((0+l0.length)*8<=140737488355328)/\(
 ((([]++l0).length+1)*8<=140737488355328)/\(
 (ML (([]++l0)++[n1]))/\(
 k ((HL (([]++l0)++[n1]))))))
theorem Uw {l0 n1} (hP:Mc l0 n1):Mc l0 n1 (Eq (Hw l0 n1)):=Pc hP
def NX (bp:Int) (aT:(List Int)) (cI fb:Int) (qn:(List Int)) (fp:LM) (iT:Int) (o:(LM×Int) ⊕ (LM)):Prop:=
 if iT<(aT.length:Int) then
  (0<=iT/\iT<aT.length)/\(
  (M4 qn (aT[iT.toNat]!))/\(
  if((I0 qn (aT[iT.toNat]!)))=true then
   (GN (iT+1))/\(
   o=(.inl (fp,iT+1)))
  else
   (0<=iT/\iT<aT.length)/\(
   ((fp.length+1)*224<=140737488355328)/\(
   (GN (iT+1))/\(
   o=(.inl ((fp++[(Gq (Gq (Gq (Gq (fun _=>0) 0 cI) 2 (aT[iT.toNat]!)) 3 bp) 8 fb)]),iT+1)))))))
 else
  o=(.inr fp)
def SR (fp r:LM):Prop:=
 r=(fp)
def T9 (bp aY aW bm:Int) (a8:Bool) (aZ:Int) (bq:NI) (a7:Int) (aT aX a6:(List Int)) (bn:LM) (cI fb:Int) (qn:(List Int)) (r:LM):Prop:=
 ∃ x:LM,Wh (fun(s:LM×Int) (o:(LM×Int) ⊕ (LM))=>NX bp aT cI fb qn s.1 s.2 o) (([],0):LM×Int) x/\SR x r
def WV (bp aY aW bm:Int) (a8:Bool) (aZ:Int) (bq:NI) (a7:Int) (aT aX a6:(List Int)) (bn:LM) (r:NI):Prop:=
 r=((Gq (GX (Gq (Gq (Gq (Gq (fun _=>0) 0 1) 2 aZ) 3 bp) 4 bm) 5 2 bq) 7 a7))
def JT (bp aY aW bm:Int) (a8:Bool) (aZ:Int) (bq:NI) (a7:Int) (aT aX a6:(List Int)) (bn:LM):NI:=
 (Gq (GX (Gq (Gq (Gq (Gq (fun _=>0) 0 1) 2 aZ) 3 bp) 4 bm) 5 2 bq) 7 a7)
theorem Yi {bp aY aW bm a8 aZ bq a7 aT aX a6 bn}:WV bp aY aW bm a8 aZ bq a7 aT aX a6 bn (JT bp aY aW bm a8 aZ bq a7 aT aX a6 bn):=Tz
def WX (bp aY aW bm:Int) (a8:Bool) (aZ:Int) (bq:NI) (a7:Int) (aT aX a6:(List Int)) (bn:LM) (m1:NI) (d5:Int) (r:Bool):Prop:=
 r=(((decide (m1 0=d5))&&((Pf m1)))&&(decide (m1 3=bp)))
def JU (bp aY aW bm:Int) (a8:Bool) (aZ:Int) (bq:NI) (a7:Int) (aT aX a6:(List Int)) (bn:LM) (m1:NI) (d5:Int):Bool:=
 ((decide (m1 0=d5))&&((Pf m1)))&&(decide (m1 3=bp))
theorem RN {bp aY aW bm a8 aZ bq a7 aT aX a6 bn m1 d5}:WX bp aY aW bm a8 aZ bq a7 aT aX a6 bn m1 d5 (JU bp aY aW bm a8 aZ bq a7 aT aX a6 bn m1 d5):=Tz
def ZF (bp aY aW bm:Int) (a8:Bool) (aZ:Int) (bq:NI) (a7:Int) (aT aX a6:(List Int)) (bn:LM) (r:Bool):Prop:=
 r=((decide (aY=3))||(decide (aY=4)))
def OD (bp aY aW bm:Int) (a8:Bool) (aZ:Int) (bq:NI) (a7:Int) (aT aX a6:(List Int)) (bn:LM):Bool:=
 (decide (aY=3))||(decide (aY=4))
theorem W1 {bp aY aW bm a8 aZ bq a7 aT aX a6 bn}:ZF bp aY aW bm a8 aZ bq a7 aT aX a6 bn (OD bp aY aW bm a8 aZ bq a7 aT aX a6 bn):=Tz
def LQ (l0:LM) (fL eu:Int) (eQ:(List Int)) (i8:Int) (o:((List Int)×Int) ⊕ ((List Int))):Prop:=
 if(((decide (i8<(l0.length:Int)))&&((Jr fL)))&&(decide (0<=eu)))=true then
  (0<=i8/\i8<l0.length)/\((((nz ((l0[i8.toNat]!) 1)))=true)->0<=i8/\i8<l0.length)/\(((((nz ((l0[i8.toNat]!) 1)))&&(decide (0<(l0[i8.toNat]!) 0)))=true)->0<=i8/\i8<l0.length)/\(((((nz ((l0[i8.toNat]!) 1)))&&(decide (0<(l0[i8.toNat]!) 0)))=true)->GN (fL-((l0[i8.toNat]!) 2)))/\(
  if((((nz ((l0[i8.toNat]!) 1)))&&(decide (0<(l0[i8.toNat]!) 0)))&&(decide (eu<=fL-((l0[i8.toNat]!) 2))))=true then
   (0<=i8/\i8<l0.length)/\(
   ((eQ.length+1)*8<=140737488355328)/\(
   (GN (i8+1))/\(
   o=(.inl ((eQ++[(l0[i8.toNat]!) 0]),i8+1)))))
  else
   (GN (i8+1))/\(
   o=(.inl (eQ,i8+1))))
 else
  o=(.inr eQ)
def NY (eQ r:(List Int)):Prop:=
 (ML eQ)/\(
 r=((HL eQ)))
def Uc (l0:LM) (fL eu:Int) (r:(List Int)):Prop:=
 ∃ x:(List Int),Wh (fun(s:(List Int)×Int) (o:((List Int)×Int) ⊕ ((List Int)))=>LQ l0 fL eu s.1 s.2 o) (([],0):(List Int)×Int) x/\NY x r
def RK (rq iE gM nF:Int) (jY:Bool) (iF:Int) (rr:NI) (jZ:Int) (dR fT iG:(List Int)) (ld:LM) (ro iB gL nD:Int) (jU:Bool) (iC:Int) (rp:NI) (jV:Int) (dQ fR iD:(List Int)) (lb:LM):Bool:=
 if((((((((!(decide (rq=ro)))||(!(decide (iE=iB))))||(!(decide (gM=gL))))||(!(decide (nF=nD))))||(!(((jY) == (jU)))))||(!(decide (iF=iC))))||(!((IJ 2 rr rp))))||(!(decide (jZ=jV))))=true then
  false
 else
  ((((JI dR dQ))&&((JI fT fR)))&&((JI iG iD)))&&((M5 ld lb))
def MI (rq iE gM nF:Int) (jY:Bool) (iF:Int) (rr:NI) (jZ:Int) (dR fT iG:(List Int)) (ld:LM) (ro iB gL nD:Int) (jU:Bool) (iC:Int) (rp:NI) (jV:Int) (dQ fR iD:(List Int)) (lb:LM) (k:(Bool)->Prop:=fun _=>True):Prop:=
 if((((((((!(decide (rq=ro)))||(!(decide (iE=iB))))||(!(decide (gM=gL))))||(!(decide (nF=nD))))||(!(((jY) == (jU)))))||(!(decide (iF=iC))))||(!((IJ 2 rr rp))))||(!(decide (jZ=jV))))=true then
  k (false)
 else
  (PJ dR dQ)/\((((JI dR dQ))=true)->PJ fT fR)/\(((((JI dR dQ))&&((JI fT fR)))=true)->PJ iG iD)/\((((((JI dR dQ))&&((JI fT fR)))&&((JI iG iD)))=true)->R3 ld lb)/\(
  k (((((JI dR dQ))&&((JI fT fR)))&&((JI iG iD)))&&((M5 ld lb))))
theorem Ab0 {rq iE gM nF jY iF rr jZ dR fT iG ld ro iB gL nD jU iC rp jV dQ fR iD lb} (hP:MI rq iE gM nF jY iF rr jZ dR fT iG ld ro iB gL nD jU iC rp jV dQ fR iD lb):MI rq iE gM nF jY iF rr jZ dR fT iG ld ro iB gL nD jU iC rp jV dQ fR iD lb (Eq (RK rq iE gM nF jY iF rr jZ dR fT iG ld ro iB gL nD jU iC rp jV dQ fR iD lb)):=Pc hP
end Go.E
namespace Go.E
open Go
theorem Acv {x:Int} {l:List Int} (h:∀ y∈l,y<x):Jh x l=l++[x]:=by
 induction l with
 | nil=>rfl
 | cons y l ih=>
  unfold Jh
  rw[Ae (h y Ad),ih fun z hz=>h z (by simp[hz])];rfl
theorem Yj (l out:List Int) (h:(out++l).Pairwise fun a b=>a<b):l.foldl (fun out x=>Jh x out) out=out++l:=by
 induction l generalizing out with
 | nil=>simp
 | cons x l ih=>
  rw[List.foldl_cons,Acv (fun y hy=>(List.pairwise_append.1 h).2.2 y hy x Ad),ih _ (by simpa using h)]
  simp
theorem Ab5 {l:List Int} (h:TY l):HL l=l:=by
 have:=Yj l [] (by simpa using h)
 simpa [HL] using this
theorem XV {l:List Int} (h:TY l) (x:Int):HL (([]++l)++[x])=Jh x l:=by
 have:=Ab5 h
 unfold HL at this ⊢
 rw[List.nil_append,List.foldl_append,this];rfl
theorem Ahg (l:List Int) (x:Int):I0 l x=IC l x:=rfl
def JA (tx _st _re _sq:Int) (_op:Bool) (_sh:Int) (_at:Nat->Int) (_mo:Int) (to_ _vo _ac:List Int) (_go:LM) (kind code:Int) (but:List Int):LM:=(Jp to_ but).map (Li tx kind code)
def NG (_tx _st _re _sq:Int) (_op:Bool) (_sh:Int) (_at:Nat->Int) (_mo:Int) (to_ _vo _ac:List Int) (_go:LM) (_kind _code:Int) (but:List Int):Prop:=to_.length<=1000000/\but.length<=1000000
theorem Aey (l but:List Int) (k:Nat) (h:l.length<=1000000):(Jp (l.take k) but).length<=1000000:=by
 unfold Jp
 exact Nat.le_trans (List.length_filter_le _ _) (by simp;omega)
theorem Qv {tx st re sq:Int} {op:Bool} {sh:Int} {at_:Nat->Int} {mo:Int} {to_ vo ac:List Int} {go:LM} {kind code:Int} {but:List Int} (h:NG tx st re sq op sh at_ mo to_ vo ac go kind code but) :
  T9 tx st re sq op sh at_ mo to_ vo ac go kind code but (JA tx st re sq op sh at_ mo to_ vo ac go kind code but):=by
 unfold NG at h
 obtain⟨h1,h2⟩:=h
 unfold T9
 refine⟨(Jp to_ but).map (Li tx kind code),?_,rfl⟩
 have:=aH (f:=fun(s:LM×Int) (o:(LM×Int) ⊕ (LM))=>NX tx to_ kind code but s.1 s.2 o) (fun k:Nat=>((Jp (to_.take k) but).map (Li tx kind code),(k:Int))) to_.length (r:=(Jp to_ but).map (Li tx kind code)) (fun k hk=>by
   dsimp only
   unfold NX
   have hl:=Aey to_ but k h1
   rw[Ae Aa,Int.toNat_natCast,MT hk,<- Ahg]
   refine⟨⟨Aa,Aa⟩,by unfold M4;omega,?_⟩
   by_cases hc:I0 but (to_[k]!)=true
   .rw[Ae hc,Ae hc,List.append_nil]
    exact⟨JK Aa,rfl⟩
   .rw[Af hc,Af hc,List.map_append]
    exact⟨⟨Aa,Aa⟩,by rw[List.length_map];omega,JK Aa,rfl⟩) (by
   dsimp only
   unfold NX
   rw[Af Aa,List.take_length])
 simpa [Jp] using this
theorem AeO (l ac:List Int):((List.range l.length).all fun k=>I0 ac (l[k]!))=decide (Jp l ac=[]):=by
 rw[Bool.eq_iff_iff,decide_eq_true_iff]
 unfold Jp
 simp only[List.all_eq_true,List.mem_range,List.filter_eq_nil_iff,Bool.not_eq_true',Bool.not_eq_false]
 constructor
 .intro h x hx
  obtain⟨k,hk,rfl⟩:=List.getElem_of_mem hx
  have:=h k hk
  rw[YS hk] at this
  exact this
 .intro h k hk
  rw[YS hk]
  exact h _ (List.getElem_mem hk)
end Go.E
namespace Go.E
open Go
def QF (now span:Int) (x:Nat->Int):Bool:=((nz (x 1))&&(decide (0<x 0)))&&(decide (span<=now-x 2))
def Iz (l:LM) (now span:Int):List Int:=if(Jr now&&decide (0<=span))=true then HL ((l.filter (QF now span)).map fun x=>x 0) else []
def Xc (l:LM) (_ _:Int):Prop:=l.length<=1000000/\∀ x∈l,0<=x 2/\x 2<=1099511627776
theorem Ad1 {l:LM} {now span:Int} (h:Xc l now span):Uc l now span (Iz l now span):=by
 obtain⟨hl,hx⟩:=h
 unfold Uc Iz
 by_cases ht:(Jr now&&decide (0<=span))=true
 .rw[Ae ht]
  have hT:Jr now=true:=by simp only[Bool.and_eq_true] at ht;exact ht.1
  have hS:0<=span:=by simp only[Bool.and_eq_true,decide_eq_true_eq] at ht;exact ht.2
  have hnow:0<=now/\now<=1099511627776:=by
   unfold Jr at hT
   simp only[Bool.and_eq_true,decide_eq_true_eq] at hT
   exact hT
  refine⟨(l.filter (QF now span)).map fun x=>x 0,?_,?_⟩
  .have:=aH (f:=fun(s:(List Int)×Int) (o:((List Int)×Int) ⊕ ((List Int)))=>LQ l now span s.1 s.2 o) (fun k:Nat=>(((l.take k).filter (QF now span)).map (fun x=>x 0),(k:Int))) l.length (r:=(l.filter (QF now span)).map fun x=>x 0) (fun k hk=>by
    have hb:(((l.take k).filter (QF now span)).map (fun x=>x 0)).length<=1000000:=by
     rw[List.length_map]
     exact Nat.le_trans (List.length_filter_le _ _) (by simp;omega)
    have hk':0<=(k:Int)/\(k:Int)<l.length:=⟨Aa,Aa⟩
    have hc:=hx _ (AdW hk)
    dsimp only
    unfold LQ
    rw[Ae (by rw[hT,decide_eq_true hS];simp only[Bool.and_true,decide_eq_true_eq];omega),Int.toNat_natCast,YV hk,List.map_append]
    refine⟨hk',fun _=>hk',fun _=>hk',fun _=>⟨Aa,Aa⟩,GO (fun h2=>?_) fun h2=>?_⟩
    .rw[Ae (c:=QF now span (l[k]!)=true) h2]
     exact⟨hk',Aa,⟨Aa,Aa⟩,rfl⟩
    .rw[Af (c:=QF now span (l[k]!)=true) h2,List.map_nil,List.append_nil]
     exact⟨⟨Aa,Aa⟩,rfl⟩) (by
    dsimp only
    unfold LQ
    rw[Af Ad,RC])
   simpa using this
  .unfold NY
   refine⟨?_,rfl⟩
   unfold ML
   rw[List.length_map]
   have:=List.length_filter_le (QF now span) l
   omega
 .rw[Af ht]
  refine⟨[],.out ?_,?_⟩
  .show LQ l now span [] 0 _
   unfold LQ
   rw[Af]
   intro hh
   refine ht ?_
   simp only[Bool.and_eq_true] at hh ⊢
   exact⟨hh.1.2,hh.2⟩
  .unfold NY
   exact⟨by unfold ML;simp,rfl⟩
end Go.E
namespace Go.E
open Go
def GE (bp aY aW bm:Int) (a8:Bool) (aZ:Int) (bq:NI) (a7:Int) (aT aX a6:(List Int)) (bn:LM) (er bR:Int):UT×LM×Int:=
 ((bp,er,bR,bm,false,aZ,bq,a7,aT,aX,a6,bn),(JA bp er bR bm false aZ bq a7 aT aX a6 bn 6 (4-er) ([])),0)
def JO (bp aY aW bm:Int) (a8:Bool) (aZ:Int) (bq:NI) (a7:Int) (aT aX a6:(List Int)) (bn:LM) (er bR:Int) (k:(UT×LM×Int)->Prop:=fun _=>True):Prop:=
 (GN (4-er))/\(
 (NG bp er bR bm false aZ bq a7 aT aX a6 bn 6 (4-er) ([]))/\(
 k (((bp,er,bR,bm,false,aZ,bq,a7,aT,aX,a6,bn),(JA bp er bR bm false aZ bq a7 aT aX a6 bn 6 (4-er) ([])),0))))
theorem OB {bp aY aW bm a8 aZ bq a7 aT aX a6 bn er bR} (hP:JO bp aY aW bm a8 aZ bq a7 aT aX a6 bn er bR):JO bp aY aW bm a8 aZ bq a7 aT aX a6 bn er bR (Eq (GE bp aY aW bm a8 aZ bq a7 aT aX a6 bn er bR)):=Pc hP
def SS (bp aY aW bm:Int) (a8:Bool) (aZ:Int) (bq:NI) (a7:Int) (aT aX a6:(List Int)) (bn:LM) (bE:Int) (d4:NI) (m3:Int):UT×LM×Int:=
 if(((((decide (bE<1))||(decide (64<bE)))||(!((Iy d4))))||(decide (m3<1)))||(decide (4<m3)))=true then
  ((bp,aY,aW,bm,a8,aZ,bq,a7,aT,aX,a6,bn),[],1)
 else
  if aY=1 then
   if(a8)=true then
    ((bp,aY,aW,bm,a8,aZ,bq,a7,aT,aX,a6,bn),[],8)
   else
    if 1048576<=bm then
     ((bp,aY,aW,bm,a8,aZ,bq,a7,aT,aX,a6,bn),[],6)
    else
     ((bp,aY,aW,bm+1,true,bE,d4,m3,(Hw aT bE),aX,a6,bn),[(JT bp aY aW (bm+1) true bE d4 m3 (Hw aT bE) aX a6 bn)],0)
  else
   ((bp,aY,aW,bm,a8,aZ,bq,a7,aT,aX,a6,bn),[],11)
def Pz (bp aY aW bm:Int) (a8:Bool) (aZ:Int) (bq:NI) (a7:Int) (aT aX a6:(List Int)) (bn:LM) (bE:Int) (d4:NI) (m3:Int) (k:(UT×LM×Int)->Prop:=fun _=>True):Prop:=
 if(((((decide (bE<1))||(decide (64<bE)))||(!((Iy d4))))||(decide (m3<1)))||(decide (4<m3)))=true then
  k (((bp,aY,aW,bm,a8,aZ,bq,a7,aT,aX,a6,bn),[],1))
 else
  if aY=1 then
   if(a8)=true then
    k (((bp,aY,aW,bm,a8,aZ,bq,a7,aT,aX,a6,bn),[],8))
   else
    if 1048576<=bm then
     k (((bp,aY,aW,bm,a8,aZ,bq,a7,aT,aX,a6,bn),[],6))
    else
     (GN (bm+1))/\(
     (Mc aT bE)/\(
     k (((bp,aY,aW,bm+1,true,bE,d4,m3,(Hw aT bE),aX,a6,bn),[(JT bp aY aW (bm+1) true bE d4 m3 (Hw aT bE) aX a6 bn)],0))))
  else
   k (((bp,aY,aW,bm,a8,aZ,bq,a7,aT,aX,a6,bn),[],11))
theorem Afj {bp aY aW bm a8 aZ bq a7 aT aX a6 bn bE d4 m3} (hP:Pz bp aY aW bm a8 aZ bq a7 aT aX a6 bn bE d4 m3):Pz bp aY aW bm a8 aZ bq a7 aT aX a6 bn bE d4 m3 (Eq (SS bp aY aW bm a8 aZ bq a7 aT aX a6 bn bE d4 m3)):=Pc hP
def KJ (bp aY aW bm:Int) (a8:Bool) (aZ:Int) (bq:NI) (a7:Int) (aT aX a6:(List Int)) (bn:LM) (m1:NI):UT×Int:=
 if((!((JU bp aY aW bm a8 aZ bq a7 aT aX a6 bn m1 2)))&&(!((JU bp aY aW bm a8 aZ bq a7 aT aX a6 bn m1 3))))=true then
  ((bp,aY,aW,bm,a8,aZ,bq,a7,aT,aX,a6,bn),5)
 else
  if aY=1 then
   if((((!(a8))||(!(decide (bm=m1 4))))||(!(decide (aZ=m1 1))))||((decide (m1 0=2))&&(!((IJ 2 bq (fun i=>m1 (5+i)))))))=true then
    ((bp,aY,aW,bm,a8,aZ,bq,a7,aT,aX,a6,bn),14)
   else
    if m1 0=2 then
     ((bp,aY,aW,bm,false,aZ,bq,a7,aT,aX,a6,(([]++bn)++[(Gq (GX (Gq (Gq (fun _=>0) 0 (m1 3)) 1 (m1 4)) 2 2 (fun i=>m1 (5+i))) 4 (m1 7))])),0)
    else
     ((bp,aY,aW,bm,false,aZ,bq,a7,aT,aX,a6,bn),0)
  else
   ((bp,aY,aW,bm,a8,aZ,bq,a7,aT,aX,a6,bn),11)
def JB (bp aY aW bm:Int) (a8:Bool) (aZ:Int) (bq:NI) (a7:Int) (aT aX a6:(List Int)) (bn:LM) (m1:NI) (k:(UT×Int)->Prop:=fun _=>True):Prop:=
 if((!((JU bp aY aW bm a8 aZ bq a7 aT aX a6 bn m1 2)))&&(!((JU bp aY aW bm a8 aZ bq a7 aT aX a6 bn m1 3))))=true then
  k (((bp,aY,aW,bm,a8,aZ,bq,a7,aT,aX,a6,bn),5))
 else
  if aY=1 then
   if((((!(a8))||(!(decide (bm=m1 4))))||(!(decide (aZ=m1 1))))||((decide (m1 0=2))&&(!((IJ 2 bq (fun i=>m1 (5+i)))))))=true then
    k (((bp,aY,aW,bm,a8,aZ,bq,a7,aT,aX,a6,bn),14))
   else
    if m1 0=2 then
     (
      ((0+bn.length)*40<=140737488355328)/\(
      ((([]++bn).length+1)*40<=140737488355328)/\(
      True)))/\(
     k (((bp,aY,aW,bm,false,aZ,bq,a7,aT,aX,a6,(([]++bn)++[(Gq (GX (Gq (Gq (fun _=>0) 0 (m1 3)) 1 (m1 4)) 2 2 (fun i=>m1 (5+i))) 4 (m1 7))])),0)))
    else
     k (((bp,aY,aW,bm,false,aZ,bq,a7,aT,aX,a6,bn),0))
  else
   k (((bp,aY,aW,bm,a8,aZ,bq,a7,aT,aX,a6,bn),11))
theorem W2 {bp aY aW bm a8 aZ bq a7 aT aX a6 bn m1} (hP:JB bp aY aW bm a8 aZ bq a7 aT aX a6 bn m1):JB bp aY aW bm a8 aZ bq a7 aT aX a6 bn m1 (Eq (KJ bp aY aW bm a8 aZ bq a7 aT aX a6 bn m1)):=Pc hP
def Mr (bp aY aW bm:Int) (a8:Bool) (aZ:Int) (bq:NI) (a7:Int) (aT aX a6:(List Int)) (bn:LM):UT×LM×Int:=
 if aY=1 then
  if(a8)=true then
   ((bp,aY,aW,bm,a8,aZ,bq,a7,aT,aX,a6,bn),[],8)
  else
   if(aT.length:Int)=0 then
    ((((GE bp aY aW bm a8 aZ bq a7 aT aX a6 bn 3 0).1).1,((GE bp aY aW bm a8 aZ bq a7 aT aX a6 bn 3 0).1).2.1,((GE bp aY aW bm a8 aZ bq a7 aT aX a6 bn 3 0).1).2.2.1,((GE bp aY aW bm a8 aZ bq a7 aT aX a6 bn 3 0).1).2.2.2.1,((GE bp aY aW bm a8 aZ bq a7 aT aX a6 bn 3 0).1).2.2.2.2.1,((GE bp aY aW bm a8 aZ bq a7 aT aX a6 bn 3 0).1).2.2.2.2.2.1,((GE bp aY aW bm a8 aZ bq a7 aT aX a6 bn 3 0).1).2.2.2.2.2.2.1,((GE bp aY aW bm a8 aZ bq a7 aT aX a6 bn 3 0).1).2.2.2.2.2.2.2.1,((GE bp aY aW bm a8 aZ bq a7 aT aX a6 bn 3 0).1).2.2.2.2.2.2.2.2.1,((GE bp aY aW bm a8 aZ bq a7 aT aX a6 bn 3 0).1).2.2.2.2.2.2.2.2.2.1,((GE bp aY aW bm a8 aZ bq a7 aT aX a6 bn 3 0).1).2.2.2.2.2.2.2.2.2.2.1,((GE bp aY aW bm a8 aZ bq a7 aT aX a6 bn 3 0).1).2.2.2.2.2.2.2.2.2.2.2),(GE bp aY aW bm a8 aZ bq a7 aT aX a6 bn 3 0).2.1,(GE bp aY aW bm a8 aZ bq a7 aT aX a6 bn 3 0).2.2)
   else
    ((bp,2,aW,bm,a8,aZ,bq,a7,aT,aX,a6,bn),(JA bp 2 aW bm a8 aZ bq a7 aT aX a6 bn 4 0 ([])),0)
 else
  ((bp,aY,aW,bm,a8,aZ,bq,a7,aT,aX,a6,bn),[],11)
def KH (bp aY aW bm:Int) (a8:Bool) (aZ:Int) (bq:NI) (a7:Int) (aT aX a6:(List Int)) (bn:LM) (k:(UT×LM×Int)->Prop:=fun _=>True):Prop:=
 if aY=1 then
  if(a8)=true then
   k (((bp,aY,aW,bm,a8,aZ,bq,a7,aT,aX,a6,bn),[],8))
  else
   if(aT.length:Int)=0 then
    (JO bp aY aW bm a8 aZ bq a7 aT aX a6 bn 3 0)/\(
    k (((((GE bp aY aW bm a8 aZ bq a7 aT aX a6 bn 3 0).1).1,((GE bp aY aW bm a8 aZ bq a7 aT aX a6 bn 3 0).1).2.1,((GE bp aY aW bm a8 aZ bq a7 aT aX a6 bn 3 0).1).2.2.1,((GE bp aY aW bm a8 aZ bq a7 aT aX a6 bn 3 0).1).2.2.2.1,((GE bp aY aW bm a8 aZ bq a7 aT aX a6 bn 3 0).1).2.2.2.2.1,((GE bp aY aW bm a8 aZ bq a7 aT aX a6 bn 3 0).1).2.2.2.2.2.1,((GE bp aY aW bm a8 aZ bq a7 aT aX a6 bn 3 0).1).2.2.2.2.2.2.1,((GE bp aY aW bm a8 aZ bq a7 aT aX a6 bn 3 0).1).2.2.2.2.2.2.2.1,((GE bp aY aW bm a8 aZ bq a7 aT aX a6 bn 3 0).1).2.2.2.2.2.2.2.2.1,((GE bp aY aW bm a8 aZ bq a7 aT aX a6 bn 3 0).1).2.2.2.2.2.2.2.2.2.1,((GE bp aY aW bm a8 aZ bq a7 aT aX a6 bn 3 0).1).2.2.2.2.2.2.2.2.2.2.1,((GE bp aY aW bm a8 aZ bq a7 aT aX a6 bn 3 0).1).2.2.2.2.2.2.2.2.2.2.2),(GE bp aY aW bm a8 aZ bq a7 aT aX a6 bn 3 0).2.1,(GE bp aY aW bm a8 aZ bq a7 aT aX a6 bn 3 0).2.2)))
   else
    (NG bp 2 aW bm a8 aZ bq a7 aT aX a6 bn 4 0 ([]))/\(
    k (((bp,2,aW,bm,a8,aZ,bq,a7,aT,aX,a6,bn),(JA bp 2 aW bm a8 aZ bq a7 aT aX a6 bn 4 0 ([])),0)))
 else
  k (((bp,aY,aW,bm,a8,aZ,bq,a7,aT,aX,a6,bn),[],11))
theorem ZD {bp aY aW bm a8 aZ bq a7 aT aX a6 bn} (hP:KH bp aY aW bm a8 aZ bq a7 aT aX a6 bn):KH bp aY aW bm a8 aZ bq a7 aT aX a6 bn (Eq (Mr bp aY aW bm a8 aZ bq a7 aT aX a6 bn)):=Pc hP
def MK (aT aX:(List Int)) (m1:NI) (i7 sr im il ik:Int) (ij:Bool) (ii:Int) (ig:NI) (ie:Int) (o:(Int×Int×Int×Int×Int×Bool×Int×NI×Int) ⊕ ((Int×Int×Int×Int×Bool×Int×NI×Int) ⊕ (Unit))):Prop:=
 if i7<(aT.length:Int) then
  (0<=i7/\i7<aT.length)/\(
  (M4 (Hw aX (m1 1)) (aT[i7.toNat]!))/\(
  if((I0 (Hw aX (m1 1)) (aT[i7.toNat]!)))=true then
   (GN (i7+1))/\(
   o=(.inl (i7+1,sr,im,il,ik,ij,ii,ig,ie)))
  else
   o=(.inr (.inr ()))))
 else
  o=(.inr (.inl (sr,im,il,ik,ij,ii,ig,ie)))
def SN (bp aY aW bm:Int) (a8:Bool) (aZ:Int) (bq:NI) (a7:Int) (aT aX a6:(List Int)) (bn:LM) (m1:NI) (sr im il ik:Int) (ij:Bool) (ii:Int) (ig:NI) (ie:Int) (r:UT×LM×Int):Prop:=
 (JO bp aY aW bm a8 aZ bq a7 aT (Hw aX (m1 1)) a6 bn 3 0)/\(
 r=(((((GE bp aY aW bm a8 aZ bq a7 aT (Hw aX (m1 1)) a6 bn 3 0).1).1,((GE bp aY aW bm a8 aZ bq a7 aT (Hw aX (m1 1)) a6 bn 3 0).1).2.1,((GE bp aY aW bm a8 aZ bq a7 aT (Hw aX (m1 1)) a6 bn 3 0).1).2.2.1,((GE bp aY aW bm a8 aZ bq a7 aT (Hw aX (m1 1)) a6 bn 3 0).1).2.2.2.1,((GE bp aY aW bm a8 aZ bq a7 aT (Hw aX (m1 1)) a6 bn 3 0).1).2.2.2.2.1,((GE bp aY aW bm a8 aZ bq a7 aT (Hw aX (m1 1)) a6 bn 3 0).1).2.2.2.2.2.1,((GE bp aY aW bm a8 aZ bq a7 aT (Hw aX (m1 1)) a6 bn 3 0).1).2.2.2.2.2.2.1,((GE bp aY aW bm a8 aZ bq a7 aT (Hw aX (m1 1)) a6 bn 3 0).1).2.2.2.2.2.2.2.1,((GE bp aY aW bm a8 aZ bq a7 aT (Hw aX (m1 1)) a6 bn 3 0).1).2.2.2.2.2.2.2.2.1,((GE bp aY aW bm a8 aZ bq a7 aT (Hw aX (m1 1)) a6 bn 3 0).1).2.2.2.2.2.2.2.2.2.1,((GE bp aY aW bm a8 aZ bq a7 aT (Hw aX (m1 1)) a6 bn 3 0).1).2.2.2.2.2.2.2.2.2.2.1,((GE bp aY aW bm a8 aZ bq a7 aT (Hw aX (m1 1)) a6 bn 3 0).1).2.2.2.2.2.2.2.2.2.2.2),(GE bp aY aW bm a8 aZ bq a7 aT (Hw aX (m1 1)) a6 bn 3 0).2.1,(GE bp aY aW bm a8 aZ bq a7 aT (Hw aX (m1 1)) a6 bn 3 0).2.2)))
def SM (bp aY aW bm:Int) (a8:Bool) (aZ:Int) (bq:NI) (a7:Int) (aT aX a6:(List Int)) (bn:LM) (m1:NI) (r:UT×LM×Int):Prop:=
 r=(((bp,aY,aW,bm,a8,aZ,bq,a7,aT,(Hw aX (m1 1)),a6,bn),[],0))
def T7 (bp aY aW bm:Int) (a8:Bool) (aZ:Int) (bq:NI) (a7:Int) (aT aX a6:(List Int)) (bn:LM) (m1:NI) (r:UT×LM×Int):Prop:=
 if((JU bp aY aW bm a8 aZ bq a7 aT aX a6 bn m1 5))=true then
  if aY=2 then
   (M4 aT (m1 1))/\(
   if((I0 aT (m1 1)))=true then
    if m1 8=0 then
     (JO bp aY aW bm a8 aZ bq a7 aT aX a6 bn 4 2)/\(
     r=(((((GE bp aY aW bm a8 aZ bq a7 aT aX a6 bn 4 2).1).1,((GE bp aY aW bm a8 aZ bq a7 aT aX a6 bn 4 2).1).2.1,((GE bp aY aW bm a8 aZ bq a7 aT aX a6 bn 4 2).1).2.2.1,((GE bp aY aW bm a8 aZ bq a7 aT aX a6 bn 4 2).1).2.2.2.1,((GE bp aY aW bm a8 aZ bq a7 aT aX a6 bn 4 2).1).2.2.2.2.1,((GE bp aY aW bm a8 aZ bq a7 aT aX a6 bn 4 2).1).2.2.2.2.2.1,((GE bp aY aW bm a8 aZ bq a7 aT aX a6 bn 4 2).1).2.2.2.2.2.2.1,((GE bp aY aW bm a8 aZ bq a7 aT aX a6 bn 4 2).1).2.2.2.2.2.2.2.1,((GE bp aY aW bm a8 aZ bq a7 aT aX a6 bn 4 2).1).2.2.2.2.2.2.2.2.1,((GE bp aY aW bm a8 aZ bq a7 aT aX a6 bn 4 2).1).2.2.2.2.2.2.2.2.2.1,((GE bp aY aW bm a8 aZ bq a7 aT aX a6 bn 4 2).1).2.2.2.2.2.2.2.2.2.2.1,((GE bp aY aW bm a8 aZ bq a7 aT aX a6 bn 4 2).1).2.2.2.2.2.2.2.2.2.2.2),(GE bp aY aW bm a8 aZ bq a7 aT aX a6 bn 4 2).2.1,(GE bp aY aW bm a8 aZ bq a7 aT aX a6 bn 4 2).2.2)))
    else
     (Mc aX (m1 1))/\(
     ∃ x:(Int×Int×Int×Int×Bool×Int×NI×Int) ⊕ (Unit),Wh (fun(s:Int×Int×Int×Int×Int×Bool×Int×NI×Int) (o:(Int×Int×Int×Int×Int×Bool×Int×NI×Int) ⊕ ((Int×Int×Int×Int×Bool×Int×NI×Int) ⊕ (Unit)))=>MK aT aX m1 s.1 s.2.1 s.2.2.1 s.2.2.2.1 s.2.2.2.2.1 s.2.2.2.2.2.1 s.2.2.2.2.2.2.1 s.2.2.2.2.2.2.2.1 s.2.2.2.2.2.2.2.2 o) ((0,0,0,0,0,false,0,(fun _=>0),0):Int×Int×Int×Int×Int×Bool×Int×NI×Int) x/\(match x with | .inl (sr,im,il,ik,ij,ii,ig,ie)=>SN bp aY aW bm a8 aZ bq a7 aT aX a6 bn m1 sr im il ik ij ii ig ie r | .inr _=>SM bp aY aW bm a8 aZ bq a7 aT aX a6 bn m1 r))
   else
    r=(((bp,aY,aW,bm,a8,aZ,bq,a7,aT,aX,a6,bn),[],10)))
  else
   r=(((bp,aY,aW,bm,a8,aZ,bq,a7,aT,aX,a6,bn),[],11))
 else
  r=(((bp,aY,aW,bm,a8,aZ,bq,a7,aT,aX,a6,bn),[],5))
def KX (bp aY aW bm:Int) (a8:Bool) (aZ:Int) (bq:NI) (a7:Int) (aT aX a6:(List Int)) (bn:LM) (bC:Int):UT×LM×Int:=
 if((decide (bC<1))||(decide (5<bC)))=true then
  ((bp,aY,aW,bm,a8,aZ,bq,a7,aT,aX,a6,bn),[],1)
 else
  if((OD bp aY aW bm a8 aZ bq a7 aT aX a6 bn))=true then
   ((bp,aY,aW,bm,a8,aZ,bq,a7,aT,aX,a6,bn),[],15)
  else
   ((((GE bp aY aW bm a8 aZ bq a7 aT aX a6 bn 4 bC).1).1,((GE bp aY aW bm a8 aZ bq a7 aT aX a6 bn 4 bC).1).2.1,((GE bp aY aW bm a8 aZ bq a7 aT aX a6 bn 4 bC).1).2.2.1,((GE bp aY aW bm a8 aZ bq a7 aT aX a6 bn 4 bC).1).2.2.2.1,((GE bp aY aW bm a8 aZ bq a7 aT aX a6 bn 4 bC).1).2.2.2.2.1,((GE bp aY aW bm a8 aZ bq a7 aT aX a6 bn 4 bC).1).2.2.2.2.2.1,((GE bp aY aW bm a8 aZ bq a7 aT aX a6 bn 4 bC).1).2.2.2.2.2.2.1,((GE bp aY aW bm a8 aZ bq a7 aT aX a6 bn 4 bC).1).2.2.2.2.2.2.2.1,((GE bp aY aW bm a8 aZ bq a7 aT aX a6 bn 4 bC).1).2.2.2.2.2.2.2.2.1,((GE bp aY aW bm a8 aZ bq a7 aT aX a6 bn 4 bC).1).2.2.2.2.2.2.2.2.2.1,((GE bp aY aW bm a8 aZ bq a7 aT aX a6 bn 4 bC).1).2.2.2.2.2.2.2.2.2.2.1,((GE bp aY aW bm a8 aZ bq a7 aT aX a6 bn 4 bC).1).2.2.2.2.2.2.2.2.2.2.2),(GE bp aY aW bm a8 aZ bq a7 aT aX a6 bn 4 bC).2.1,(GE bp aY aW bm a8 aZ bq a7 aT aX a6 bn 4 bC).2.2)
def Kk (bp aY aW bm:Int) (a8:Bool) (aZ:Int) (bq:NI) (a7:Int) (aT aX a6:(List Int)) (bn:LM) (bC:Int) (k:(UT×LM×Int)->Prop:=fun _=>True):Prop:=
 if((decide (bC<1))||(decide (5<bC)))=true then
  k (((bp,aY,aW,bm,a8,aZ,bq,a7,aT,aX,a6,bn),[],1))
 else
  if((OD bp aY aW bm a8 aZ bq a7 aT aX a6 bn))=true then
   k (((bp,aY,aW,bm,a8,aZ,bq,a7,aT,aX,a6,bn),[],15))
  else
   (JO bp aY aW bm a8 aZ bq a7 aT aX a6 bn 4 bC)/\(
   k (((((GE bp aY aW bm a8 aZ bq a7 aT aX a6 bn 4 bC).1).1,((GE bp aY aW bm a8 aZ bq a7 aT aX a6 bn 4 bC).1).2.1,((GE bp aY aW bm a8 aZ bq a7 aT aX a6 bn 4 bC).1).2.2.1,((GE bp aY aW bm a8 aZ bq a7 aT aX a6 bn 4 bC).1).2.2.2.1,((GE bp aY aW bm a8 aZ bq a7 aT aX a6 bn 4 bC).1).2.2.2.2.1,((GE bp aY aW bm a8 aZ bq a7 aT aX a6 bn 4 bC).1).2.2.2.2.2.1,((GE bp aY aW bm a8 aZ bq a7 aT aX a6 bn 4 bC).1).2.2.2.2.2.2.1,((GE bp aY aW bm a8 aZ bq a7 aT aX a6 bn 4 bC).1).2.2.2.2.2.2.2.1,((GE bp aY aW bm a8 aZ bq a7 aT aX a6 bn 4 bC).1).2.2.2.2.2.2.2.2.1,((GE bp aY aW bm a8 aZ bq a7 aT aX a6 bn 4 bC).1).2.2.2.2.2.2.2.2.2.1,((GE bp aY aW bm a8 aZ bq a7 aT aX a6 bn 4 bC).1).2.2.2.2.2.2.2.2.2.2.1,((GE bp aY aW bm a8 aZ bq a7 aT aX a6 bn 4 bC).1).2.2.2.2.2.2.2.2.2.2.2),(GE bp aY aW bm a8 aZ bq a7 aT aX a6 bn 4 bC).2.1,(GE bp aY aW bm a8 aZ bq a7 aT aX a6 bn 4 bC).2.2)))
theorem Wi {bp aY aW bm a8 aZ bq a7 aT aX a6 bn bC} (hP:Kk bp aY aW bm a8 aZ bq a7 aT aX a6 bn bC):Kk bp aY aW bm a8 aZ bq a7 aT aX a6 bn bC (Eq (KX bp aY aW bm a8 aZ bq a7 aT aX a6 bn bC)):=Pc hP
def SU (bp aY aW bm:Int) (a8:Bool) (aZ:Int) (bq:NI) (a7:Int) (aT aX a6:(List Int)) (bn:LM) (m1:NI):UT×Int:=
 if((JU bp aY aW bm a8 aZ bq a7 aT aX a6 bn m1 7))=true then
  if((OD bp aY aW bm a8 aZ bq a7 aT aX a6 bn))=true then
   if((I0 aT (m1 1)))=true then
    ((bp,aY,aW,bm,a8,aZ,bq,a7,aT,aX,(Hw a6 (m1 1)),bn),0)
   else
    ((bp,aY,aW,bm,a8,aZ,bq,a7,aT,aX,a6,bn),10)
  else
   ((bp,aY,aW,bm,a8,aZ,bq,a7,aT,aX,a6,bn),11)
 else
  ((bp,aY,aW,bm,a8,aZ,bq,a7,aT,aX,a6,bn),5)
def PA (bp aY aW bm:Int) (a8:Bool) (aZ:Int) (bq:NI) (a7:Int) (aT aX a6:(List Int)) (bn:LM) (m1:NI) (k:(UT×Int)->Prop:=fun _=>True):Prop:=
 if((JU bp aY aW bm a8 aZ bq a7 aT aX a6 bn m1 7))=true then
  if((OD bp aY aW bm a8 aZ bq a7 aT aX a6 bn))=true then
   (M4 aT (m1 1))/\(
   if((I0 aT (m1 1)))=true then
    (Mc a6 (m1 1))/\(
    k (((bp,aY,aW,bm,a8,aZ,bq,a7,aT,aX,(Hw a6 (m1 1)),bn),0)))
   else
    k (((bp,aY,aW,bm,a8,aZ,bq,a7,aT,aX,a6,bn),10)))
  else
   k (((bp,aY,aW,bm,a8,aZ,bq,a7,aT,aX,a6,bn),11))
 else
  k (((bp,aY,aW,bm,a8,aZ,bq,a7,aT,aX,a6,bn),5))
theorem Afl {bp aY aW bm a8 aZ bq a7 aT aX a6 bn m1} (hP:PA bp aY aW bm a8 aZ bq a7 aT aX a6 bn m1):PA bp aY aW bm a8 aZ bq a7 aT aX a6 bn m1 (Eq (SU bp aY aW bm a8 aZ bq a7 aT aX a6 bn m1)):=Pc hP
def MP (bp aY aW bm:Int) (a8:Bool) (aZ:Int) (bq:NI) (a7:Int) (aT aX a6:(List Int)) (bn:LM) (cY:Bool):LM:=
 if aY=1 then
  if(a8)=true then
   if(cY)=true then
    (([]++[(JT bp aY aW bm a8 aZ bq a7 aT aX a6 bn)])++(JA bp aY aW bm a8 aZ bq a7 aT aX a6 bn 8 0 ([])))
   else
    ([]++[(JT bp aY aW bm a8 aZ bq a7 aT aX a6 bn)])
  else
   if(cY)=true then
    ([]++(JA bp aY aW bm a8 aZ bq a7 aT aX a6 bn 8 0 ([])))
   else
    []
 else
  if aY=2 then
   (JA bp aY aW bm a8 aZ bq a7 aT aX a6 bn 4 0 aX)
  else
   if((OD bp aY aW bm a8 aZ bq a7 aT aX a6 bn))=true then
    (JA bp aY aW bm a8 aZ bq a7 aT aX a6 bn 6 (4-aY) a6)
   else
    []
def MN (bp aY aW bm:Int) (a8:Bool) (aZ:Int) (bq:NI) (a7:Int) (aT aX a6:(List Int)) (bn:LM) (cY:Bool) (k:(LM)->Prop:=fun _=>True):Prop:=
 if aY=1 then
  if(a8)=true then
   ((0+1)*224<=140737488355328)/\(
   if(cY)=true then
    (NG bp aY aW bm a8 aZ bq a7 aT aX a6 bn 8 0 ([]))/\(
    ((([]++[(JT bp aY aW bm a8 aZ bq a7 aT aX a6 bn)]).length+(JA bp aY aW bm a8 aZ bq a7 aT aX a6 bn 8 0 ([])).length)*224<=140737488355328)/\(
    k ((([]++[(JT bp aY aW bm a8 aZ bq a7 aT aX a6 bn)])++(JA bp aY aW bm a8 aZ bq a7 aT aX a6 bn 8 0 ([]))))))
   else
    k (([]++[(JT bp aY aW bm a8 aZ bq a7 aT aX a6 bn)])))
  else
   if(cY)=true then
    (NG bp aY aW bm a8 aZ bq a7 aT aX a6 bn 8 0 ([]))/\(
    ((0+(JA bp aY aW bm a8 aZ bq a7 aT aX a6 bn 8 0 ([])).length)*224<=140737488355328)/\(
    k (([]++(JA bp aY aW bm a8 aZ bq a7 aT aX a6 bn 8 0 ([]))))))
   else
    k ([])
 else
  if aY=2 then
   (NG bp aY aW bm a8 aZ bq a7 aT aX a6 bn 4 0 aX)/\(
   k ((JA bp aY aW bm a8 aZ bq a7 aT aX a6 bn 4 0 aX)))
  else
   if((OD bp aY aW bm a8 aZ bq a7 aT aX a6 bn))=true then
    (GN (4-aY))/\(
    (NG bp aY aW bm a8 aZ bq a7 aT aX a6 bn 6 (4-aY) a6)/\(
    k ((JA bp aY aW bm a8 aZ bq a7 aT aX a6 bn 6 (4-aY) a6))))
   else
    k ([])
theorem Ab8 {bp aY aW bm a8 aZ bq a7 aT aX a6 bn cY} (hP:MN bp aY aW bm a8 aZ bq a7 aT aX a6 bn cY):MN bp aY aW bm a8 aZ bq a7 aT aX a6 bn cY (Eq (MP bp aY aW bm a8 aZ bq a7 aT aX a6 bn cY)):=Pc hP
end Go.E
namespace Go.E
open Go
section
variable (tx st re sq:Int) (op:Bool) (sh:Int) (at_:Nat->Int) (mo:Int) (to_ vo ac:List Int) (go:LM)
def AcN (to_ vo:List Int):Bool:=(List.range to_.length).all fun k=>I0 vo (to_[k]!)
def Ov (m:Nat->Int):T17×LM×Int:=
 if JU tx st re sq op sh at_ mo to_ vo ac go m 5=true then
  if st=2 then
   if I0 to_ (m 1)=true then
    if m 8=0 then GE tx st re sq op sh at_ mo to_ vo ac go 4 2
    else if AcN to_ (Hw vo (m 1))=true then GE tx st re sq op sh at_ mo to_ (Hw vo (m 1)) ac go 3 0
    else((tx,st,re,sq,op,sh,at_,mo,to_,Hw vo (m 1),ac,go),[],0)
   else((tx,st,re,sq,op,sh,at_,mo,to_,vo,ac,go),[],10)
  else((tx,st,re,sq,op,sh,at_,mo,to_,vo,ac,go),[],11)
 else((tx,st,re,sq,op,sh,at_,mo,to_,vo,ac,go),[],5)
end
def T8 (_tx _st _re _sq:Int) (_op:Bool) (_sh:Int) (_at:Nat->Int) (_mo:Int) (to_ vo _ac:List Int) (_go:LM) (_m:Nat->Int):Prop:=to_.length<=1000/\vo.length<=1000
section
variable {n:Nat} {tx st re sq:Int} {op:Bool} {sh:Int} {at_:Nat->Int} {mo:Int} {to_ vo ac:List Int} {go:LM}
theorem QU {l:List Int} (h:l.length<=1000) (x:Int):Mc l x:=by
 unfold Mc ML
 simp
 omega
theorem Ab2 {l:List Int} (h:l.length<=1000) (x:Int):(Hw l x).length<=1001:=by
 unfold Hw
 have:=U5 (([]++l)++[x])
 simp at this ⊢
 omega
theorem Ux {l:List Int} (h:TY l) (x:Int):Hw l x=Jh x l:=XV h x
theorem Me (h:to_.length<=1000) {s r:Int} (hs:0<=s/\s<=4):JO tx st re sq op sh at_ mo to_ vo ac go s r:=by
 unfold JO NG
 exact⟨⟨Aa,Aa⟩,⟨Aa,Ad⟩,trivial⟩
theorem Adn {tx st re sq:Int} {op:Bool} {sh:Int} {at_:Nat->Int} {mo:Int} {to_ vo ac:List Int} {go:LM} {m:Nat->Int} (h:T8 tx st re sq op sh at_ mo to_ vo ac go m) :
  T7 tx st re sq op sh at_ mo to_ vo ac go m (Ov tx st re sq op sh at_ mo to_ vo ac go m):=by
 obtain⟨h1,h2⟩:=h
 unfold T7 Ov
 by_cases a1:JU tx st re sq op sh at_ mo to_ vo ac go m 5=true
 .rw[Ae a1,Ae a1]
  by_cases a2:st=2
  .rw[Ae a2,Ae a2]
   refine⟨by unfold M4;omega,?_⟩
   by_cases a3:I0 to_ (m 1)=true
   .rw[Ae a3,Ae a3]
    by_cases a4:m 8=0
    .rw[Ae a4,Ae a4]
     exact⟨Me h1 Aa,rfl⟩
    .rw[Af a4,Af a4]
     refine⟨QU h2 _,?_⟩
     have hw:=Ab2 h2 (m 1)
     have hd:=Me (tx:=tx) (st:=st) (re:=re) (sq:=sq) (op:=op) (sh:=sh) (at_:=at_) (mo:=mo) (to_:=to_) (vo:=Hw vo (m 1)) (ac:=ac) (go:=go) h1 (s:=3) (r:=0) Aa
     have key:=aL (f:=fun(s:Int×Int×Int×Int×Int×Bool×Int×NI×Int) (o:(Int×Int×Int×Int×Int×Bool×Int×NI×Int) ⊕ ((Int×Int×Int×Int×Bool×Int×NI×Int) ⊕ (Unit)))=>MK to_ vo m s.1 s.2.1 s.2.2.1 s.2.2.2.1 s.2.2.2.2.1 s.2.2.2.2.2.1 s.2.2.2.2.2.2.1 s.2.2.2.2.2.2.2.1 s.2.2.2.2.2.2.2.2 o)
      (fun s=>∃ k:Nat,s.1=(k:Int)/\k<=to_.length/\∀ q,q<k->I0 (Hw vo (m 1)) (to_[q]!)=true) (fun s=>to_.length-s.1.toNat)
      (fun r=>(∃ x,r=.inl x)/\AcN to_ (Hw vo (m 1))=true∨r=.inr ()/\¬ AcN to_ (Hw vo (m 1))=true)
      (s:=((0,0,0,0,0,false,0,(fun _=>0),0):Int×Int×Int×Int×Int×Bool×Int×NI×Int)) ⟨0,rfl,Aa,fun q hq=>absurd hq (Nat.not_lt_zero _)⟩ (by
       rintro⟨i,s⟩ ⟨k,rfl,hk,hv⟩
       dsimp only
       by_cases hlt:k<to_.length
       .by_cases hc:I0 (Hw vo (m 1)) (to_[k]!)=true
        .left
         refine⟨((k:Int)+1,s),?_,⟨k+1,Ad,hlt,fun q hq=>?_⟩,by dsimp only;omega⟩
         .unfold MK
          rw[Ae Aa,Int.toNat_natCast,Ae hc]
          exact⟨⟨Aa,Aa⟩,by unfold M4;omega,JK Aa,rfl⟩
         .rcases Nat.lt_succ_iff_lt_or_eq.1 hq with hq | rfl
          .exact hv q hq
          .exact hc
        .right
         refine⟨.inr (),?_,.inr ⟨rfl,fun e=>hc ?_⟩⟩
         .unfold MK
          rw[Ae Aa,Int.toNat_natCast,Af hc]
          exact⟨⟨Aa,Aa⟩,by unfold M4;omega,rfl⟩
         .exact List.all_eq_true.1 e k (List.mem_range.2 hlt)
       .right
        refine⟨.inl s,?_,.inl ⟨⟨s,rfl⟩,List.all_eq_true.2 fun q hq=>hv q (by have:=List.mem_range.1 hq;omega)⟩⟩
        unfold MK
        rw[Af Aa])
     obtain⟨r,hr,h3⟩:=key
     refine⟨r,hr,?_⟩
     rcases h3 with ⟨⟨x,rfl⟩,hv⟩ | ⟨rfl,hv⟩
     .rw[Ae hv]
      exact⟨hd,rfl⟩
     .rw[Af hv];rfl
   .rw[Af a3,Af a3]
  .rw[Af a2,Af a2]
 .rw[Af a1,Af a1]
theorem Ym (a:Nat->Int):Iy a=HQ a:=by
 unfold Iy HQ
 rw[show decide (0<a 0)=decide (1<=a 0) from decide_eq_decide.2 Aa,show decide (a 0<251)=decide (a 0<=250) from decide_eq_decide.2 Aa,show decide (-1<a 1)=decide (0<=a 1) from decide_eq_decide.2 Aa,show decide (a 1<251)=decide (a 1<=250) from decide_eq_decide.2 Aa]
theorem KG {k:Int} {m:Nat->Int}:JU tx st re sq op sh at_ mo to_ vo ac go m k=true↔Lg tx k m:=by
 unfold JU Lg
 simp[and_assoc]
theorem S7 (l:List Int):Jp l []=l:=by
 unfold Jp
 rw[List.filter_eq_self]
 intro x _
 rfl
theorem OC {s r:Int}:GE tx st re sq op sh at_ mo to_ vo ac go s r=((tx,s,r,sq,false,sh,at_,mo,to_,vo,ac,go),to_.map (Li tx 6 (4-s)),0):=by
 unfold GE JA
 rw[S7]
theorem KW:OD tx st re sq op sh at_ mo to_ vo ac go=true↔st=3∨st=4:=by
 unfold OD
 simp
theorem Afk (h:TI n tx st re sq op sh at_ mo to_ vo ac go) (s:Int) (a:Nat->Int) (m:Int) :
  Pz tx st re sq op sh at_ mo to_ vo ac go s a m/\SS tx st re sq op sh at_ mo to_ vo ac go s a m=Ts tx st re sq op sh at_ mo to_ vo ac go s a m:=by
 have hq:=h.hsq
 have h1:=h.lto
 unfold Pz SS Ts
 rw[Ym]
 by_cases hb:(1<=s/\s<=64)/\HQ a=true/\(1<=m/\m<=4)
 .have hb':¬ (((((decide (s<1))||(decide (64<s)))||(!((HQ a))))||(decide (m<1)))||(decide (4<m)))=true:=by
   simp only[Bool.or_eq_true,decide_eq_true_eq,Bool.not_eq_true']
   rintro((((h | h) | h) | h) | h)
   .omega
   .omega
   .rw[hb.2.1] at h;cases h
   .omega
   .omega
  rw[Af hb',Af hb',Ae hb]
  by_cases hs:st=1
  .rw[Ae hs,Ae hs,Ae hs]
   by_cases ho:op=true
   .rw[Ae ho,Ae ho,Ae ho]
    exact⟨trivial,rfl⟩
   .rw[Af ho,Af ho,Af ho]
    by_cases h6:sq=1048576
    .rw[Ae (show 1048576<=sq by omega),Ae (show 1048576<=sq by omega),Ae h6]
     exact⟨trivial,rfl⟩
    .rw[Af (show ¬ 1048576<=sq by omega),Af (show ¬ 1048576<=sq by omega),Af h6,Ux h.to1]
     exact⟨⟨⟨Aa,Aa⟩,QU Aa _,trivial⟩,rfl⟩
  .rw[Af hs,Af hs,Af hs]
   exact⟨trivial,rfl⟩
 .have hb':(((((decide (s<1))||(decide (64<s)))||(!((HQ a))))||(decide (m<1)))||(decide (4<m)))=true:=by
   simp only[Bool.or_eq_true,decide_eq_true_eq,Bool.not_eq_true']
   cases hr:HQ a
   .simp
   .simp only[hr,true_and] at hb
    simp
    omega
  rw[Ae hb',Ae hb',Af hb]
  exact⟨trivial,rfl⟩
theorem Aew {k:Nat} {a b:Nat->Int}:IJ k a b=IJ k b a:=by
 rw[Bool.eq_iff_iff,H6,H6]
 exact⟨fun h i hi=>(h i hi).symm,fun h i hi=>(h i hi).symm⟩
theorem W3 (h:TI n tx st re sq op sh at_ mo to_ vo ac go) (hn:n<=1000000) (m:Nat->Int) :
  JB tx st re sq op sh at_ mo to_ vo ac go m/\KJ tx st re sq op sh at_ mo to_ vo ac go m=VO tx st re sq op sh at_ mo to_ vo ac go m:=by
 have hg:=h.hgo
 unfold JB KJ VO
 rw[Aew (a:=at_)]
 refine⟨?_,?_⟩
 .refine GO (fun _=>trivial) (fun _=>GO (fun _=>GO (fun _=>trivial) (fun _=>GO (fun _=>?_) (fun _=>trivial))) (fun _=>trivial))
  refine⟨⟨Aa,?_,trivial⟩,trivial⟩
  simp only[List.nil_append]
  omega
 .by_cases hf:Lg tx 2 m∨Lg tx 3 m
  .rw[Af (by rw[Bool.and_eq_true,Bool.not_eq_true',Bool.not_eq_true',<- Bool.not_eq_true,<- Bool.not_eq_true,KG,KG];exact fun e=>hf.elim e.1 e.2),Ae hf]
   by_cases hs:st=1
   .rw[Ae hs,Ae hs]
    by_cases hc:op=true/\m 4=sq/\m 1=sh/\(m 0=2->IJ 2 (fun i=>m (5+i)) at_=true)
    .obtain⟨h1,h2,h3,h4⟩:=id hc
     have hc':¬ ((((!(op))||(!(decide (sq=m 4))))||(!(decide (sh=m 1))))||((decide (m 0=2))&&(!((IJ 2 (fun i=>m (5+i)) at_)))))=true:=by
      by_cases h5:m 0=2
      .simp[h1,h2,h3,h4 h5]
      .simp[h1,h2,h3,h5]
     rw[Af hc',Ae hc]
     by_cases h5:m 0=2
     .rw[Ae h5,Ae h5];rfl
     .rw[Af h5,Af h5]
    .have hc':((((!(op))||(!(decide (sq=m 4))))||(!(decide (sh=m 1))))||((decide (m 0=2))&&(!((IJ 2 (fun i=>m (5+i)) at_)))))=true:=by
      simp only[Bool.or_eq_true,Bool.not_eq_true',decide_eq_false_iff_not,Bool.and_eq_true,decide_eq_true_eq]
      by_cases h1:op=true
      .by_cases h2:m 4=sq
       .by_cases h3:m 1=sh
        .right
         by_cases h4:m 0=2/\IJ 2 (fun i=>m (5+i)) at_=false
         .exact h4
         .exfalso
          refine hc ⟨h1,h2,h3,fun e=>?_⟩
          cases hq:IJ 2 (fun i=>m (5+i)) at_
          .exact absurd ⟨e,hq⟩ h4
          .rfl
        .exact .inl (.inr fun e=>h3 e.symm)
       .exact .inl (.inl (.inr fun e=>h2 e.symm))
      .simp only[Bool.not_eq_true] at h1;exact .inl (.inl (.inl h1))
     rw[Ae hc',Af hc]
   .rw[Af hs,Af hs]
  .rw[Ae (by rw[Bool.and_eq_true,Bool.not_eq_true',Bool.not_eq_true',<- Bool.not_eq_true,<- Bool.not_eq_true,KG,KG];exact⟨fun e=>hf (.inl e),fun e=>hf (.inr e)⟩),Af hf]
theorem ZE (h:TI n tx st re sq op sh at_ mo to_ vo ac go) :
  KH tx st re sq op sh at_ mo to_ vo ac go/\Mr tx st re sq op sh at_ mo to_ vo ac go=Tq tx st re sq op sh at_ mo to_ vo ac go:=by
 have h1:=h.lto
 unfold KH Mr Tq
 refine⟨GO (fun _=>GO (fun _=>trivial) (fun _=>GO (fun _=>⟨Me Aa Aa,trivial⟩) (fun _=>⟨⟨Aa,Ad⟩,trivial⟩))) (fun _=>trivial),?_⟩
 by_cases hs:st=1
 .rw[Ae hs,Ae hs]
  by_cases ho:op=true
  .rw[Ae ho,Ae ho]
  .rw[Af ho,Af ho]
   by_cases ht:to_=[]
   .rw[Ae (Ad7.2 ht),Ae ht,OC];rfl
   .rw[Af (fun e=>ht (Ad7.1 e)),Af ht]
    unfold JA
    rw[S7]
 .rw[Af hs,Af hs]
theorem AeP {l v:List Int}:AcN l v=true↔∀ x∈l,x∈v:=by
 unfold AcN
 rw[AeO,decide_eq_true_iff]
 unfold Jp
 rw[List.filter_eq_nil_iff]
 refine forall_congr' fun x=>forall_congr' fun _=>?_
 unfold IC
 simp
theorem AfV {l v:List Int} (hv:TY v) (hl:TY l) (hs:∀ x∈v,x∈l):AcN l v=true↔¬ v.length<l.length:=by
 rw[AeP]
 constructor
 .intro h
  have:=AaL hl h
  omega
 .intro h x hx
  refine Classical.byContradiction fun hn=>h ?_
  have:=Qj (l:=x::v) (m:=l) (List.nodup_cons.2 ⟨hn,Ox hv⟩) (fun s hs'=>(List.mem_cons.1 hs').elim (fun e=>e▸hx) (hs s))
  rw[List.length_cons] at this
  exact this
theorem Ado (h:TI n tx st re sq op sh at_ mo to_ vo ac go) (m:Nat->Int) :
  T8 tx st re sq op sh at_ mo to_ vo ac go m/\Ov tx st re sq op sh at_ mo to_ vo ac go m=O9 tx st re sq op sh at_ mo to_ vo ac go m:=by
 have h1:=h.lto
 have h2:=h.lvo
 refine⟨⟨Aa,Aa⟩,?_⟩
 unfold Ov O9
 by_cases hf:Lg tx 5 m
 .rw[Ae (KG.2 hf),Ae hf]
  by_cases hs:st=2
  .rw[Ae hs,Ae hs]
   by_cases hm:m 1∈to_
   .rw[Ae (show I0 to_ (m 1)=true from decide_eq_true hm),Ae hm]
    by_cases h8:m 8=0
    .rw[Ae h8,Ae h8,OC];rfl
    .rw[Af h8,Af h8,Ux h.vo1]
     have ha:=AfV (l:=to_) (v:=Jh (m 1) vo) (JY h.vo1) h.to1 (fun x hx=>(K1.1 hx).elim (fun e=>e▸hm) (h.vo2 x))
     by_cases hl:(Jh (m 1) vo).length<to_.length
     .rw[Af (fun e=>ha.1 e hl),Ae hl]
     .rw[Ae (ha.2 hl),Af hl,OC];rfl
   .rw[Af (show ¬ I0 to_ (m 1)=true by unfold I0;simpa using hm),Af hm]
  .rw[Af hs,Af hs]
 .rw[Af (fun e=>hf (KG.1 e)),Af hf]
theorem Wj (h:TI n tx st re sq op sh at_ mo to_ vo ac go) (r:Int) :
  Kk tx st re sq op sh at_ mo to_ vo ac go r/\KX tx st re sq op sh at_ mo to_ vo ac go r=Le tx st re sq op sh at_ mo to_ vo ac go r:=by
 have h1:=h.lto
 unfold Kk KX Le
 refine⟨GO (fun _=>trivial) (fun _=>GO (fun _=>trivial) (fun _=>⟨Me Aa Aa,trivial⟩)),?_⟩
 by_cases hr:1<=r/\r<=5
 .rw[Af (by simp;omega),Ae hr]
  by_cases hd:st=3∨st=4
  .rw[Ae (KW.2 hd),Ae hd]
  .rw[Af (fun e=>hd (KW.1 e)),Af hd,OC];rfl
 .rw[Ae (by simp;omega),Af hr]
theorem Afm (h:TI n tx st re sq op sh at_ mo to_ vo ac go) (m:Nat->Int) :
  PA tx st re sq op sh at_ mo to_ vo ac go m/\SU tx st re sq op sh at_ mo to_ vo ac go m=VQ tx st re sq op sh at_ mo to_ vo ac go m:=by
 have h1:=h.lto
 have h3:=h.lac
 unfold PA SU VQ
 refine⟨GO (fun _=>GO (fun _=>⟨by unfold M4;omega,GO (fun _=>⟨QU Aa _,trivial⟩) (fun _=>trivial)⟩) (fun _=>trivial)) (fun _=>trivial),?_⟩
 by_cases hf:Lg tx 7 m
 .rw[Ae (KG.2 hf),Ae hf]
  by_cases hd:st=3∨st=4
  .rw[Ae (KW.2 hd),Ae hd]
   by_cases hm:m 1∈to_
   .rw[Ae (show I0 to_ (m 1)=true from decide_eq_true hm),Ae hm,Ux h.ac1]
   .rw[Af (show ¬ I0 to_ (m 1)=true by unfold I0;simpa using hm),Af hm]
  .rw[Af (fun e=>hd (KW.1 e)),Af hd]
 .rw[Af (fun e=>hf (KG.1 e)),Af hf]
end
end Go.E
namespace Go.E
open Go
section
variable {n:Nat} {tx st re sq:Int} {op:Bool} {sh:Int} {at_:Nat->Int} {mo:Int} {to_ vo ac:List Int} {go:LM}
theorem Ab1 (h1:to_.length<=1000000) (h2:vo.length<=1000000) (h3:ac.length<=1000000) (h4:go.length<=1000000) :
  MI tx st re sq op sh at_ mo to_ vo ac go tx st re sq op sh at_ mo to_ vo ac go/\RK tx st re sq op sh at_ mo to_ vo ac go tx st re sq op sh at_ mo to_ vo ac go=true:=by
 have he:IJ 2 at_ at_=true:=H6.2 fun _ _=>rfl
 unfold MI RK
 rw[Af (by simp[he]),Af (by simp[he]),Tj,Tj,Tj,YR]
 exact⟨⟨by unfold PJ;omega,fun _=>by unfold PJ;omega,fun _=>by unfold PJ;omega,fun _=>by unfold R3;omega,trivial⟩,rfl⟩
theorem Wg (h:TI n tx st re sq op sh at_ mo to_ vo ac go) (b:Bool) :
  MN tx st re sq op sh at_ mo to_ vo ac go b/\MP tx st re sq op sh at_ mo to_ vo ac go b=Rl tx st sq op sh at_ mo to_ vo ac b:=by
 have h1:=h.lto
 have h2:=h.lvo
 have h3:=h.lac
 have hl:=fun but=>Qm to_ but
 unfold MN MP Rl NG JA
 rw[S7]
 refine⟨?_,?_⟩
 .refine GO (fun _=>GO (fun _=>⟨Aa,GO (fun _=>⟨⟨Aa,Ad⟩,?_,trivial⟩) (fun _=>trivial)⟩) (fun _=>GO (fun _=>⟨⟨Aa,Ad⟩,?_,trivial⟩) (fun _=>trivial))) (fun _=>GO (fun _=>⟨⟨Aa,Aa⟩,trivial⟩) (fun hs=>GO (fun hd=>⟨⟨by have:=KW.1 hd;omega,by have:=KW.1 hd;omega⟩,⟨Aa,Aa⟩,trivial⟩) (fun _=>trivial)))
  .simp;omega
  .simp;omega
 .by_cases s1:st=1
  .rw[Ae s1,Ae s1]
   cases op <;> cases b <;> simp[JT,Aa5]
  .rw[Af s1,Af s1]
   by_cases s2:st=2
   .rw[Ae s2,Ae s2]
   .rw[Af s2,Af s2]
    by_cases s3:st=3
    .rw[Ae (KW.2 (.inl s3)),Ae s3,s3];rfl
    .rw[Af s3]
     by_cases s4:st=4
     .rw[Ae (KW.2 (.inr s4)),Ae s4,s4];rfl
     .rw[Af (fun e=>(KW.1 e).elim s3 s4),Af s4]
end
end Go.E
