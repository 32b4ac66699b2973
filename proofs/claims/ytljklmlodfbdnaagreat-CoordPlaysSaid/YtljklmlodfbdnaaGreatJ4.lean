/- Part 4 of the proof. -/
import Derived.Test.YtljklmlodfbdnaaGreatJ3
import Derived.Test.YtljklmlodfbdnaaGreatJ2
set_option maxHeartbeats 1000000
set_option maxRecDepth 100000
set_option linter.unusedVariables false
set_option linter.unusedSimpArgs false
set_option linter.unusedSectionVars false
set_option linter.unnecessarySimpa false
namespace Go.E
open Go
def AhO (bp aY aW bm:Int) (a8:Bool) (aZ:Int) (bq:NI) (a7:Int) (aT aX a6:(List Int)) (bn:LM):UT:=
 (bp,aY,aW,bm,a8,aZ,bq,a7,(G3 aT),(G3 aX),(G3 a6),(Od bn))
def MQ (bp aY aW bm:Int) (a8:Bool) (aZ:Int) (bq:NI) (a7:Int) (aT aX a6:(List Int)) (bn:LM) (k:(UT)->Prop:=fun _=>True):Prop:=
 (IW aT)/\(
 (IW aX)/\(
 (IW a6)/\(
 (PX bn)/\(
 k ((bp,aY,aW,bm,a8,aZ,bq,a7,(G3 aT),(G3 aX),(G3 a6),(Od bn)))))))
theorem OI {bp aY aW bm a8 aZ bq a7 aT aX a6 bn} (hP:MQ bp aY aW bm a8 aZ bq a7 aT aX a6 bn):MQ bp aY aW bm a8 aZ bq a7 aT aX a6 bn (Eq (AhO bp aY aW bm a8 aZ bq a7 aT aX a6 bn)):=Pc hP
def Kb (bp aY aW bm:Int) (a8:Bool) (aZ:Int) (bq:NI) (a7:Int) (aT aX a6:(List Int)) (bn:LM) (m1:NI) (gb:(List Int)):Int:=
 if(((!((IC gb (m1 0))))||(!(decide ((Js m1)=0))))||(!(decide (m1 3=bp))))=true then
  5
 else
  0
def Nl (bp aY aW bm:Int) (a8:Bool) (aZ:Int) (bq:NI) (a7:Int) (aT aX a6:(List Int)) (bn:LM) (m1:NI) (gb:(List Int)) (k:(Int)->Prop:=fun _=>True):Prop:=
 (L6 gb (m1 0))/\(
 if(((!((IC gb (m1 0))))||(!(decide ((Js m1)=0))))||(!(decide (m1 3=bp))))=true then
  k (5)
 else
  k (0))
theorem X9 {bp aY aW bm a8 aZ bq a7 aT aX a6 bn m1 gb} (hP:Nl bp aY aW bm a8 aZ bq a7 aT aX a6 bn m1 gb):Nl bp aY aW bm a8 aZ bq a7 aT aX a6 bn m1 gb (Eq (Kb bp aY aW bm a8 aZ bq a7 aT aX a6 bn m1 gb)):=Pc hP
def KT (bp aY aW bm:Int) (a8:Bool) (aZ:Int) (bq:NI) (a7:Int) (aT aX a6:(List Int)) (bn:LM) (m1:NI) (d5:Int) (gX:Bool):Int:=
 if(Kb bp aY aW bm a8 aZ bq a7 aT aX a6 bn m1 ([d5]))=0 then
  if(gX)=true then
   if((IC aT (m1 1)))=true then
    0
   else
    10
  else
   11
 else
  (Kb bp aY aW bm a8 aZ bq a7 aT aX a6 bn m1 ([d5]))
def Nk (bp aY aW bm:Int) (a8:Bool) (aZ:Int) (bq:NI) (a7:Int) (aT aX a6:(List Int)) (bn:LM) (m1:NI) (d5:Int) (gX:Bool) (k:(Int)->Prop:=fun _=>True):Prop:=
 (Nl bp aY aW bm a8 aZ bq a7 aT aX a6 bn m1 ([d5]))/\(
 if(Kb bp aY aW bm a8 aZ bq a7 aT aX a6 bn m1 ([d5]))=0 then
  if(gX)=true then
   (L6 aT (m1 1))/\(
   if((IC aT (m1 1)))=true then
    k (0)
   else
    k (10))
  else
   k (11)
 else
  k ((Kb bp aY aW bm a8 aZ bq a7 aT aX a6 bn m1 ([d5]))))
theorem X7 {bp aY aW bm a8 aZ bq a7 aT aX a6 bn m1 d5 gX} (hP:Nk bp aY aW bm a8 aZ bq a7 aT aX a6 bn m1 d5 gX):Nk bp aY aW bm a8 aZ bq a7 aT aX a6 bn m1 d5 gX (Eq (KT bp aY aW bm a8 aZ bq a7 aT aX a6 bn m1 d5 gX)):=Pc hP
def HI (bp aY aW bm:Int) (a8:Bool) (aZ:Int) (bq:NI) (a7:Int) (aT aX a6:(List Int)) (bn:LM) (fC:(List Int)):LM:=
 (KD bp aY aW bm a8 aZ bq a7 aT aX a6 bn 6 (if aY=3 then 1 else 0) fC)
def H0 (bp aY aW bm:Int) (a8:Bool) (aZ:Int) (bq:NI) (a7:Int) (aT aX a6:(List Int)) (bn:LM) (fC:(List Int)) (k:(LM)->Prop:=fun _=>True):Prop:=
 (Rv bp aY aW bm a8 aZ bq a7 aT aX a6 bn 6 (if aY=3 then 1 else 0) fC)/\(
 k ((KD bp aY aW bm a8 aZ bq a7 aT aX a6 bn 6 (if aY=3 then 1 else 0) fC)))
theorem JC {bp aY aW bm a8 aZ bq a7 aT aX a6 bn fC} (hP:H0 bp aY aW bm a8 aZ bq a7 aT aX a6 bn fC):H0 bp aY aW bm a8 aZ bq a7 aT aX a6 bn fC (Eq (HI bp aY aW bm a8 aZ bq a7 aT aX a6 bn fC)):=Pc hP
def ME (aT jC:(List Int)) (x8:Int) (o:(Int) ⊕ ((Unit) ⊕ (Int))):Prop:=
 if x8<((G3 aT).length:Int) then
  (0<=x8/\x8<(G3 aT).length)/\(
  (L6 jC ((G3 aT)[x8.toNat]!))/\(
  if((IC jC ((G3 aT)[x8.toNat]!)))=true then
   o=(.inr (.inr x8))
  else
   (GN (x8+1))/\(
   o=(.inl (x8+1)))))
 else
  o=(.inr (.inl ()))
def NT (aT r:(List Int)):Prop:=
 r=((G3 aT))
def MD (jC s0:(List Int)) (i5 j6:Int) (o:((List Int)×Int×Int) ⊕ ((List Int)×Int)):Prop:=
 if j6<(s0.length:Int) then
  (0<=j6/\j6<s0.length)/\(
  (L6 jC (s0[j6.toNat]!))/\(
  if((IC jC (s0[j6.toNat]!)))=true then
   (GN (j6+1))/\(
   o=(.inl (s0,i5,j6+1)))
  else
   (0<=i5/\i5<s0.length)/\(
   (GN (i5+1))/\(
   (GN (j6+1))/\(
   o=(.inl (s0.set (i5.toNat) (s0[j6.toNat]!),i5+1,j6+1)))))))
 else
  o=(.inr (s0,i5))
def Qb (s0:(List Int)) (i5:Int) (r:(List Int)):Prop:=
 (0<=i5/\i5<=s0.length)/\(
 (0<=i5/\i5<=(s0.take i5.toNat++List.replicate (s0.length-i5.toNat) 0).length)/\(
 r=(((s0.take i5.toNat++List.replicate (s0.length-i5.toNat) 0).take i5.toNat).drop 0)))
def NS (aT jC:(List Int)) (x4:Int) (r:(List Int)):Prop:=
 if x4=(-1) then
  r=((G3 aT))
 else
  (GN (x4+1))/\(
  ∃ x:(List Int)×Int,Wh (fun(s:(List Int)×Int×Int) (o:((List Int)×Int×Int) ⊕ ((List Int)×Int))=>MD jC s.1 s.2.1 s.2.2 o) (((G3 aT),x4,x4+1):(List Int)×Int×Int) x/\Qb x.1 x.2 r)
def T4 (bp aY aW bm:Int) (a8:Bool) (aZ:Int) (bq:NI) (a7:Int) (aT aX a6:(List Int)) (bn:LM) (jC r:(List Int)):Prop:=
 (IW aT)/\(
 ∃ x:(Unit) ⊕ (Int),Wh (fun(s:Int) (o:(Int) ⊕ ((Unit) ⊕ (Int)))=>ME aT jC s o) (0:Int) x/\(match x with | .inl _=>NT aT r | .inr x4=>NS aT jC x4 r))
def QO (bp aY aW bm:Int) (a8:Bool) (aZ:Int) (bq:NI) (a7:Int) (aT aX a6:(List Int)) (bn:LM) (r:Bool):Prop:=
 if aY=3 then
  r=(true)
 else
  if aY=4 then
   r=(true)
  else
   r=(false)
def Jg (bp aY aW bm:Int) (a8:Bool) (aZ:Int) (bq:NI) (a7:Int) (aT aX a6:(List Int)) (bn:LM):Bool:=
 if aY=3 then
  true
 else
  if aY=4 then
   true
  else
   false
theorem TE {bp aY aW bm a8 aZ bq a7 aT aX a6 bn}:QO bp aY aW bm a8 aZ bq a7 aT aX a6 bn (Jg bp aY aW bm a8 aZ bq a7 aT aX a6 bn):=Tz
def Zs (qt:Int) (r:UT×Int):Prop:=
 if((decide (qt<1))||(decide (1048576<qt)))=true then
  r=(((0,0,0,0,false,0,(fun _=>0),0,[],[],[],[]),1))
 else
  r=(((qt,1,0,0,false,0,(fun _=>0),0,[],[],[],[]),0))
def G8 (qt:Int):UT×Int:=
 if((decide (qt<1))||(decide (1048576<qt)))=true then
  ((0,0,0,0,false,0,(fun _=>0),0,[],[],[],[]),1)
 else
  ((qt,1,0,0,false,0,(fun _=>0),0,[],[],[],[]),0)
theorem Afb {qt}:Zs qt (G8 qt):=Tz
def Jb (c0:NI) (bv oQ:Int):Int×NI:=
 if((decide (bv<1))||(decide (c0 0<bv)))=true then
  (10,c0)
 else
  if((decide (oQ<1))||(decide (1048576<oQ)))=true then
   (1,c0)
  else
   if((nz (c0 ((1+(bv.toNat*3))+2))))=true then
    (11,c0)
   else
    if c0 (1+(bv.toNat*3))=0 then
     if((LF ((Kg c0 oQ).2) 10))=true then
      (0,(Gq c0 (1+(bv.toNat*3)) oQ))
     else
      (15,c0)
    else
     (8,c0)
def LZ (c0:NI) (bv oQ:Int) (k:(Int×NI)->Prop:=fun _=>True):Prop:=
 if((decide (bv<1))||(decide (c0 0<bv)))=true then
  k ((10,c0))
 else
  (0<=bv/\bv<9)/\(
  if((decide (oQ<1))||(decide (1048576<oQ)))=true then
   k ((1,c0))
  else
   if((nz (c0 ((1+(bv.toNat*3))+2))))=true then
    k ((11,c0))
   else
    if c0 (1+(bv.toNat*3))=0 then
     (LD ((Kg c0 oQ).2) 10)/\(
     if((LF ((Kg c0 oQ).2) 10))=true then
      k ((0,(Gq c0 (1+(bv.toNat*3)) oQ)))
     else
      k ((15,c0)))
    else
     k ((8,c0)))
theorem WC {c0 bv oQ} (hP:LZ c0 bv oQ):LZ c0 bv oQ (Eq (Jb c0 bv oQ)):=Pc hP
def PY (c0:NI) (bZ:Int):Int×NI:=
 if(Kg c0 bZ).2=0 then
  (0,(Gq c0 (1+(((Kg c0 bZ).1).toNat*3)) 0))
 else
  ((Kg c0 bZ).2,c0)
def O4 (c0:NI) (bZ:Int) (k:(Int×NI)->Prop:=fun _=>True):Prop:=
 if(Kg c0 bZ).2=0 then
  (0<=(Kg c0 bZ).1/\(Kg c0 bZ).1<9)/\(
  k ((0,(Gq c0 (1+(((Kg c0 bZ).1).toNat*3)) 0))))
 else
  k (((Kg c0 bZ).2,c0))
theorem Abv {c0 bZ} (hP:O4 c0 bZ):O4 c0 bZ (Eq (PY c0 bZ)):=Pc hP
def G5 (c0:NI) (bv:Int):Int×Int:=
 if((decide (bv<1))||(decide (c0 0<bv)))=true then
  (0,10)
 else
  if c0 (1+(bv.toNat*3))=0 then
   (0,10)
  else
   (c0 (1+(bv.toNat*3)),0)
def Ly (c0:NI) (bv:Int) (k:(Int×Int)->Prop:=fun _=>True):Prop:=
 if((decide (bv<1))||(decide (c0 0<bv)))=true then
  k ((0,10))
 else
  (0<=bv/\bv<9)/\(
  if c0 (1+(bv.toNat*3))=0 then
   k ((0,10))
  else
   k ((c0 (1+(bv.toNat*3)),0)))
theorem Uk {c0 bv} (hP:Ly c0 bv):Ly c0 bv (Eq (G5 c0 bv)):=Pc hP
def PZ (c0:NI) (bv jx:Int):Int×NI:=
 if((decide (bv<1))||(decide (c0 0<bv)))=true then
  (10,c0)
 else
  if((decide (jx<0))||(decide (1099511627776<jx)))=true then
   (1,c0)
  else
   if((nz (c0 ((1+(bv.toNat*3))+2))))=true then
    (11,c0)
   else
    (0,(Gq (Gq c0 ((1+(bv.toNat*3))+2) (bI true)) ((1+(bv.toNat*3))+1) jx))
def Na (c0:NI) (bv jx:Int) (k:(Int×NI)->Prop:=fun _=>True):Prop:=
 if((decide (bv<1))||(decide (c0 0<bv)))=true then
  k ((10,c0))
 else
  (0<=bv/\bv<9)/\(
  if((decide (jx<0))||(decide (1099511627776<jx)))=true then
   k ((1,c0))
  else
   if((nz (c0 ((1+(bv.toNat*3))+2))))=true then
    k ((11,c0))
   else
    k ((0,(Gq (Gq c0 ((1+(bv.toNat*3))+2) (bI true)) ((1+(bv.toNat*3))+1) jx))))
theorem AcK {c0 bv jx} (hP:Na c0 bv jx):Na c0 bv jx (Eq (PZ c0 bv jx)):=Pc hP
def Jd (c0:NI) (bv:Int):Bool:=
 if((decide (bv<1))||(decide (c0 0<bv)))=true then
  false
 else
  !((nz (c0 ((1+(bv.toNat*3))+2))))
def Kl (c0:NI) (bv:Int) (k:(Bool)->Prop:=fun _=>True):Prop:=
 if((decide (bv<1))||(decide (c0 0<bv)))=true then
  k (false)
 else
  (0<=bv/\bv<9)/\(
  k (!((nz (c0 ((1+(bv.toNat*3))+2))))))
theorem WD {c0 bv} (hP:Kl c0 bv):Kl c0 bv (Eq (Jd c0 bv)):=Pc hP
def Oc (c0:NI) (fL eu:Int) (eQ:(List Int)) (j4:Int) (o:((List Int)×Int) ⊕ ((List Int))):Prop:=
 if j4<9 then
  (0<=j4/\j4<9)/\(
  (((((nz (c0 (1+((j4.toNat*3)+2)))))&&(!(decide (c0 (1+(j4.toNat*3))=0))))=true)->GN (fL-(c0 (1+((j4.toNat*3)+1)))))/\(
  if((((nz (c0 (1+((j4.toNat*3)+2)))))&&(!(decide (c0 (1+(j4.toNat*3))=0))))&&(decide (eu<=fL-(c0 (1+((j4.toNat*3)+1))))))=true then
   ((eQ.length+1)*8<=140737488355328)/\(
   (GN (j4+1))/\(
   o=(.inl ((eQ++[c0 (1+(j4.toNat*3))]),j4+1))))
  else
   (GN (j4+1))/\(
   o=(.inl (eQ,j4+1)))))
 else
  o=(.inr eQ)
def Qw (eQ r:(List Int)):Prop:=
 (Pp eQ)/\(
 r=((Yc eQ)))
def Um (c0:NI) (fL eu:Int) (r:(List Int)):Prop:=
 if(((decide (fL<0))||(decide (1099511627776<fL)))||(decide (eu<0)))=true then
  r=([])
 else
  ∃ x:(List Int),Wh (fun(s:(List Int)×Int) (o:((List Int)×Int) ⊕ ((List Int)))=>Oc c0 fL eu s.1 s.2 o) (([],0):(List Int)×Int) x/\Qw x r
end Go.E
namespace Go.E
open Go
def Jp (l but:List Int):List Int:=l.filter fun x=>!IC but x
def Ka (_tx _st _re _sq:Int) (_op:Bool) (_sh:Int) (_at:Nat->Int) (_mo:Int) (to_ _vo _ac:List Int) (_go:LM) (but:List Int):List Int:=Jp to_ but
def T5 (_tx _st _re _sq:Int) (_op:Bool) (_sh:Int) (_at:Nat->Int) (_mo:Int) (to_ _vo _ac:List Int) (_go:LM) (but:List Int):Prop:=to_.length<=1000000000/\but.length<=1000000000
theorem take_succ! (l:List Int) {k:Nat} (h:k<l.length):l.take (k+1)=l.take k++[l[k]!]:=by
 rw[List.take_add_one,List.getElem?_eq_getElem h,YS h];rfl
theorem MT {l but:List Int} {k:Nat} (h:k<l.length):Jp (l.take (k+1)) but=Jp (l.take k) but++if IC but (l[k]!)=true then [] else [l[k]!]:=by
 unfold Jp
 rw[take_succ! l h,List.filter_append]
 generalize l[k]! = x
 congr 1
 by_cases hc:IC but x=true
 .rw[Ae hc,List.filter_cons_of_neg (by rw[hc];decide)];rfl
 .rw[Af hc,List.filter_cons_of_pos (by simpa using hc)];rfl
theorem Ut {tx st re sq:Int} {op:Bool} {sh:Int} {at_:Nat->Int} {mo:Int} {to_ vo ac:List Int} {go:LM} {but:List Int} (h:T5 tx st re sq op sh at_ mo to_ vo ac go but) :
  T4 tx st re sq op sh at_ mo to_ vo ac go but (Ka tx st re sq op sh at_ mo to_ vo ac go but):=by
 obtain⟨hl,hb⟩:=h
 unfold T4 Ka
 refine⟨hl,?_⟩
 have hcl:G3 to_=to_:=rfl
 obtain⟨r,hr,h2⟩:=aL (f:=fun(s:Int) (o:(Int) ⊕ ((Unit) ⊕ (Int)))=>ME to_ but s o) (fun s=>∃ k:Nat,s=(k:Int)/\k<=to_.length/\Jp (to_.take k) but=to_.take k) (fun s=>to_.length-s.toNat)
   (fun r=>(r=.inl ()/\Jp to_ but=to_)∨∃ k:Nat,r=.inr (k:Int)/\k<to_.length/\Jp (to_.take k) but=to_.take k/\IC but (to_[k]!)=true) (s:=(0:Int)) ⟨0,rfl,Ad,by simp[Jp]⟩ (by
  rintro s ⟨k,rfl,hk,hL⟩
  by_cases hlt:k<to_.length
  .by_cases hc:IC but (to_[k]!)=true
   .right
    refine⟨.inr (k:Int),?_,.inr ⟨k,rfl,hlt,hL,hc⟩⟩
    unfold ME
    rw[hcl,Int.toNat_natCast,Ae Aa,Ae hc]
    exact⟨⟨Aa,Aa⟩,hb,rfl⟩
   .left
    refine⟨((k:Int)+1),?_,⟨k+1,Ad,hlt,by rw[MT hlt,hL,Af hc,take_succ! _ hlt]⟩,Aa⟩
    unfold ME
    rw[hcl,Int.toNat_natCast,Ae Aa,Af hc]
    exact⟨⟨Aa,Aa⟩,hb,JK Aa,rfl⟩
  .right
   refine⟨.inl (),?_,.inl ⟨rfl,by rw[List.take_of_length_le Aa] at hL;exact hL⟩⟩
   unfold ME
   rw[hcl,Af Aa])
 refine⟨r,hr,?_⟩
 rcases h2 with ⟨rfl,h2⟩ | ⟨k,rfl,hk,hL,hc⟩
 .show NT to_ (Jp to_ but)
  unfold NT
  rw[h2,hcl]
 .show NS to_ but (k:Int) (Jp to_ but)
  unfold NS
  rw[Af Aa,hcl]
  refine⟨JK Aa,?_⟩
  obtain⟨x,hx,h3⟩:=aL (f:=fun(s:(List Int)×Int×Int) (o:((List Int)×Int×Int) ⊕ ((List Int)×Int))=>MD but s.1 s.2.1 s.2.2 o) (fun s=>∃ i j:Nat,s.2.1=(i:Int)/\s.2.2=(j:Int)/\i<j/\j<=to_.length/\s.1.length=to_.length/\s.1.take i=Jp (to_.take j) but/\∀ q,j<=q->q<to_.length->s.1[q]! = to_[q]!) (fun s=>to_.length-s.2.2.toNat)
    (fun x=>∃ i:Nat,x.2=(i:Int)/\i<=x.1.length/\x.1.take i=Jp to_ but) (s:=((to_,(k:Int),(k:Int)+1):(List Int)×Int×Int)) ⟨k,k+1,rfl,Ad,Aa,hk,rfl,by rw[MT hk,hL,Ae hc];simp,fun _ _ _=>rfl⟩ (by
   rintro⟨s,i',j'⟩ ⟨i,j,h1,h2,hij,hj,hsl,ht,hq⟩
   dsimp only at h1 h2 hsl ht hq
   subst h1
   subst h2
   by_cases hlt:j<to_.length
   .left
    have e:=hq j (Nat.le_refl _) hlt
    by_cases hcj:IC but (to_[j]!)=true
    .refine⟨(s,(i:Int),(j:Int)+1),?_,⟨i,j+1,rfl,Ad,Aa,hlt,hsl,by rw[MT hlt,Ae hcj,List.append_nil];exact ht,fun q h1 h2=>hq q Aa h2⟩,by dsimp only;omega⟩
     dsimp only
     unfold MD
     rw[Int.toNat_natCast,Int.toNat_natCast,Ae Aa,e,Ae hcj]
     exact⟨⟨Aa,Aa⟩,hb,JK Aa,rfl⟩
    .refine⟨(s.set i (to_[j]!),(i:Int)+1,(j:Int)+1),?_,⟨i+1,j+1,Ad,Ad,Aa,hlt,by simpa using hsl,?_,fun q h1 h2=>?_⟩,by dsimp only;omega⟩
     .dsimp only
      unfold MD
      rw[Int.toNat_natCast,Int.toNat_natCast,Ae Aa,e,Af hcj]
      exact⟨⟨Aa,Aa⟩,hb,⟨Aa,Aa⟩,JK Aa,JK Aa,rfl⟩
     .dsimp only
      rw[MT hlt,Af hcj,<- ht,take_succ! _ (by simp;omega),List.take_set_of_le (Nat.le_refl _),YS (by simp;omega),List.getElem_set_self]
     .dsimp only
      rw[YS (by simp;omega),List.getElem_set_ne Aa,<- YS Aa,hq q Aa h2]
   .right
    refine⟨(s,(i:Int)),?_,i,rfl,by dsimp only;omega,?_⟩
    .dsimp only
     unfold MD
     rw[Af Aa]
    .dsimp only
     rw[ht,List.take_of_length_le Aa])
  refine⟨x,hx,?_⟩
  obtain⟨s,i'⟩:=x
  obtain⟨i,h1,h2,h3⟩:=h3
  dsimp only at h1 h2 h3
  subst h1
  dsimp only
  unfold Qb
  rw[Int.toNat_natCast]
  refine⟨⟨Aa,Aa⟩,⟨Aa,by simp;omega⟩,?_⟩
  rw[<- h3,List.drop_zero,List.take_append_of_le_length (by simp;omega),List.take_take,Nat.min_self]
end Go.E
namespace Go.E
open Go
def Z4 (x:Int):List Int->List Int
 | []=>[x]
 | y::r=>if x<=y then x::y::r else y::Z4 x r
def Vd (l:List Int):List Int:=l.foldr Z4 []
theorem Wk (x:Int) (l:List Int):(Z4 x l).Perm (x::l):=by
 induction l with
 | nil=>exact .refl _
 | cons y l ih=>
  unfold Z4
  split
  .exact .refl _
  .exact(List.Perm.cons y ih).trans (List.Perm.swap x y l)
theorem OF (l:List Int):(Vd l).Perm l:=by
 induction l with
 | nil=>exact .refl _
 | cons x l ih=>exact(Wk x _).trans (ih.cons x)
theorem Yb {x:Int} {l:List Int} (h:l.Pairwise fun a b=>a<=b):(Z4 x l).Pairwise fun a b=>a<=b:=by
 induction l with
 | nil=>simp[Z4]
 | cons y l ih=>
  have hy:=List.pairwise_cons.1 h
  unfold Z4
  split
  .rename_i hxy
   refine List.pairwise_cons.2 ⟨fun z hz=>?_,h⟩
   rcases List.mem_cons.1 hz with rfl | hz
   .exact hxy
   .have:=hy.1 z hz;omega
  .rename_i hxy
   refine List.pairwise_cons.2 ⟨fun z hz=>?_,ih hy.2⟩
   rcases List.mem_cons.1 ((Wk x l).mem_iff.1 hz) with rfl | hz
   .omega
   .exact hy.1 z hz
theorem RE (l:List Int):(Vd l).Pairwise fun a b=>a<=b:=by
 induction l with
 | nil=>exact .nil
 | cons x l ih=>exact Yb ih
theorem Adi {l:List Int}:Yc l=Vd l:=by
 have hs:(Yc l).Pairwise (fun a b=>a<=b):=by
  have:=List.pairwise_mergeSort (le:=leI) (fun a b c h1 h2=>by simp only[leI,decide_eq_true_eq] at *;omega) (fun a b=>by simp only[leI,Bool.or_eq_true,decide_eq_true_eq];omega) l
  exact this.imp fun h=>by simpa [leI] using h
 exact List.Perm.eq_of_pairwise (le:=fun a b=>a<=b) (fun a b _ _ h1 h2=>by omega) hs (RE l) ((List.mergeSort_perm _ _).trans (OF l).symm)
theorem Acm (l:List Int):(Vd l).length=l.length:=(OF l).length_eq
theorem Wm {x:Int} {l:List Int}:x∈Vd l↔x∈l:=(OF l).mem_iff
def NZ (c:Nat->Int) (now span:Int) (j:Nat):Bool:=((nz (c (1+(j*3+2))))&&(!(decide (c (1+j*3)=0))))&&(decide (span<=now-c (1+(j*3+1))))
def Nx (c:Nat->Int) (now span:Int) (k:Nat):List Int:=((List.range k).filter (NZ c now span)).map fun j=>c (1+j*3)
def AeK (now span:Int):Bool:=((decide (now<0))||(decide (1099511627776<now)))||(decide (span<0))
def HU (c:Nat->Int) (now span:Int):List Int:=if AeK now span=true then [] else Vd (Nx c now span 9)
def Abu (c:Nat->Int) (_ _:Int):Prop:=∀ j,j<9->0<=c (1+(j*3+1))/\c (1+(j*3+1))<=1099511627776
theorem S2 (c:Nat->Int) (now span:Int) (k:Nat):(Nx c now span k).length<=k:=by
 unfold Nx
 rw[List.length_map]
 exact Nat.le_trans (List.length_filter_le _ _) Ad
theorem ZS (c:Nat->Int) (now span:Int) (k:Nat):Nx c now span (k+1)=Nx c now span k++(if NZ c now span k=true then [c (1+k*3)] else []):=by
 unfold Nx
 rw[List.range_succ,List.filter_append,List.map_append]
 congr 1
 by_cases h:NZ c now span k=true <;> simp[h]
theorem AeH {c:Nat->Int} {now span:Int} (h:Abu c now span):Um c now span (HU c now span):=by
 unfold Um HU
 refine GO (fun h1=>?_) fun h1=>?_
 .rw[Ae (c:=AeK now span=true) h1]
 .rw[Af (c:=AeK now span=true) h1]
  simp only[Bool.or_eq_true,decide_eq_true_eq,not_or,Int.not_lt] at h1
  refine⟨Nx c now span 9,?_,?_⟩
  .have:=aH (f:=fun(s:(List Int)×Int) (o:((List Int)×Int) ⊕ ((List Int)))=>Oc c now span s.1 s.2 o) (fun k:Nat=>(Nx c now span k,(k:Int))) 9 (r:=Nx c now span 9) (fun k hk=>by
    have hb:=S2 c now span k
    have hc:=h k hk
    dsimp only
    unfold Oc
    rw[Ae Aa,Int.toNat_natCast,ZS]
    refine⟨⟨Aa,Aa⟩,fun _=>⟨Aa,Aa⟩,GO (fun h2=>?_) fun h2=>?_⟩
    .rw[Ae (c:=NZ c now span k=true) h2]
     exact⟨Aa,⟨Aa,Aa⟩,rfl⟩
    .rw[Af (c:=NZ c now span k=true) h2,List.append_nil]
     exact⟨⟨Aa,Aa⟩,rfl⟩) (by
    dsimp only
    unfold Oc
    rw[Af Aa])
   simpa [Nx] using this
  .unfold Qw
   have:=S2 c now span 9
   exact⟨by unfold Pp;omega,(Adi).symm⟩
end Go.E
namespace Go.E
open Go
def Sz (bp aY aW bm:Int) (a8:Bool) (aZ:Int) (bq:NI) (a7:Int) (aT aX a6:(List Int)) (bn:LM) (bE:Int) (d4:NI) (m3:Int):UT×LM×Int:=
 if(((((decide (bE<1))||(decide (64<bE)))||(!((HQ d4))))||(decide (m3<1)))||(decide (4<m3)))=true then
  ((bp,aY,aW,bm,a8,aZ,bq,a7,aT,aX,a6,bn),[],1)
 else
  if(It bp aY aW bm a8 aZ bq a7 aT aX a6 bn)=0 then
   if bm=1048576 then
    ((bp,aY,aW,bm,a8,aZ,bq,a7,aT,aX,a6,bn),[],6)
   else
    if((Hd aT bE).2)=true then
     ((bp,aY,aW,bm+1,true,bE,d4,m3,aT,aX,a6,bn),[(IX bp aY aW (bm+1) true bE d4 m3 aT aX a6 bn)],0)
    else
     ((bp,aY,aW,bm+1,true,bE,d4,m3,(Iw (G3 aT) ((Hd aT bE).1).toNat bE),aX,a6,bn),[(IX bp aY aW (bm+1) true bE d4 m3 (Iw (G3 aT) ((Hd aT bE).1).toNat bE) aX a6 bn)],0)
  else
   ((bp,aY,aW,bm,a8,aZ,bq,a7,aT,aX,a6,bn),[],(It bp aY aW bm a8 aZ bq a7 aT aX a6 bn))
def Pn (bp aY aW bm:Int) (a8:Bool) (aZ:Int) (bq:NI) (a7:Int) (aT aX a6:(List Int)) (bn:LM) (bE:Int) (d4:NI) (m3:Int) (k:(UT×LM×Int)->Prop:=fun _=>True):Prop:=
 if(((((decide (bE<1))||(decide (64<bE)))||(!((HQ d4))))||(decide (m3<1)))||(decide (4<m3)))=true then
  (MQ bp aY aW bm a8 aZ bq a7 aT aX a6 bn)/\(
  k (((bp,aY,aW,bm,a8,aZ,bq,a7,aT,aX,a6,bn),[],1)))
 else
  if(It bp aY aW bm a8 aZ bq a7 aT aX a6 bn)=0 then
   if bm=1048576 then
    (MQ bp aY aW bm a8 aZ bq a7 aT aX a6 bn)/\(
    k (((bp,aY,aW,bm,a8,aZ,bq,a7,aT,aX,a6,bn),[],6)))
   else
    (MQ bp aY aW bm a8 aZ bq a7 aT aX a6 bn)/\(
    (GN (bm+1))/\(
    (Pq aT bE)/\(
    if((Hd aT bE).2)=true then
     k (((bp,aY,aW,bm+1,true,bE,d4,m3,aT,aX,a6,bn),[(IX bp aY aW (bm+1) true bE d4 m3 aT aX a6 bn)],0))
    else
     (IW aT)/\(
     (0<=(Hd aT bE).1/\(Hd aT bE).1<=((G3 aT).length:Int))/\(
     (Pp (G3 aT))/\(
     k (((bp,aY,aW,bm+1,true,bE,d4,m3,(Iw (G3 aT) ((Hd aT bE).1).toNat bE),aX,a6,bn),[(IX bp aY aW (bm+1) true bE d4 m3 (Iw (G3 aT) ((Hd aT bE).1).toNat bE) aX a6 bn)],0))))))))
  else
   (MQ bp aY aW bm a8 aZ bq a7 aT aX a6 bn)/\(
   k (((bp,aY,aW,bm,a8,aZ,bq,a7,aT,aX,a6,bn),[],(It bp aY aW bm a8 aZ bq a7 aT aX a6 bn))))
theorem Afd {bp aY aW bm a8 aZ bq a7 aT aX a6 bn bE d4 m3} (hP:Pn bp aY aW bm a8 aZ bq a7 aT aX a6 bn bE d4 m3):Pn bp aY aW bm a8 aZ bq a7 aT aX a6 bn bE d4 m3 (Eq (Sz bp aY aW bm a8 aZ bq a7 aT aX a6 bn bE d4 m3)):=Pc hP
def I5 (bp aY aW bm:Int) (a8:Bool) (aZ:Int) (bq:NI) (a7:Int) (aT aX a6:(List Int)) (bn:LM) (m1:NI):UT×Int:=
 if(Kb bp aY aW bm a8 aZ bq a7 aT aX a6 bn m1 ([2,3]))=0 then
  if aY=1 then
   if((((!(a8))||(!(decide (m1 4=bm))))||(!(decide (m1 1=aZ))))||((decide (m1 0=2))&&(!((IJ 2 (fun i=>m1 (5+i)) bq)))))=true then
    ((bp,aY,aW,bm,a8,aZ,bq,a7,aT,aX,a6,bn),14)
   else
    if m1 0=2 then
     ((bp,aY,aW,bm,false,aZ,bq,a7,aT,aX,a6,(bn++[(Gq (GX (Gq (Gq (fun _=>0) 0 (m1 3)) 1 (m1 4)) 2 2 (fun i=>m1 (5+i))) 4 (m1 7))])),0)
    else
     ((bp,aY,aW,bm,false,aZ,bq,a7,aT,aX,a6,bn),0)
  else
   ((bp,aY,aW,bm,a8,aZ,bq,a7,aT,aX,a6,bn),11)
 else
  ((bp,aY,aW,bm,a8,aZ,bq,a7,aT,aX,a6,bn),(Kb bp aY aW bm a8 aZ bq a7 aT aX a6 bn m1 ([2,3])))
def IL (bp aY aW bm:Int) (a8:Bool) (aZ:Int) (bq:NI) (a7:Int) (aT aX a6:(List Int)) (bn:LM) (m1:NI) (k:(UT×Int)->Prop:=fun _=>True):Prop:=
 (MQ bp aY aW bm a8 aZ bq a7 aT aX a6 bn)/\(
 (Nl bp aY aW bm a8 aZ bq a7 aT aX a6 bn m1 ([2,3]))/\(
 if(Kb bp aY aW bm a8 aZ bq a7 aT aX a6 bn m1 ([2,3]))=0 then
  if aY=1 then
   if((((!(a8))||(!(decide (m1 4=bm))))||(!(decide (m1 1=aZ))))||((decide (m1 0=2))&&(!((IJ 2 (fun i=>m1 (5+i)) bq)))))=true then
    k (((bp,aY,aW,bm,a8,aZ,bq,a7,aT,aX,a6,bn),14))
   else
    if m1 0=2 then
     ((bn.length+1)*40<=140737488355328)/\(
     k (((bp,aY,aW,bm,false,aZ,bq,a7,aT,aX,a6,(bn++[(Gq (GX (Gq (Gq (fun _=>0) 0 (m1 3)) 1 (m1 4)) 2 2 (fun i=>m1 (5+i))) 4 (m1 7))])),0)))
    else
     k (((bp,aY,aW,bm,false,aZ,bq,a7,aT,aX,a6,bn),0))
  else
   k (((bp,aY,aW,bm,a8,aZ,bq,a7,aT,aX,a6,bn),11))
 else
  k (((bp,aY,aW,bm,a8,aZ,bq,a7,aT,aX,a6,bn),(Kb bp aY aW bm a8 aZ bq a7 aT aX a6 bn m1 ([2,3]))))))
theorem RB {bp aY aW bm a8 aZ bq a7 aT aX a6 bn m1} (hP:IL bp aY aW bm a8 aZ bq a7 aT aX a6 bn m1):IL bp aY aW bm a8 aZ bq a7 aT aX a6 bn m1 (Eq (I5 bp aY aW bm a8 aZ bq a7 aT aX a6 bn m1)):=Pc hP
end Go.E
namespace Go.E
open Go
def Mn (bp aY aW bm:Int) (a8:Bool) (aZ:Int) (bq:NI) (a7:Int) (aT aX a6:(List Int)) (bn:LM):UT×LM×Int:=
 if(It bp aY aW bm a8 aZ bq a7 aT aX a6 bn)=0 then
  if(aT.length:Int)=0 then
   ((bp,3,0,bm,false,aZ,bq,a7,aT,aX,a6,bn),(HI bp 3 0 bm false aZ bq a7 aT aX a6 bn aT),0)
  else
   ((bp,2,aW,bm,a8,aZ,bq,a7,aT,aX,a6,bn),(KD bp 2 aW bm a8 aZ bq a7 aT aX a6 bn 4 0 aT),0)
 else
  ((bp,aY,aW,bm,a8,aZ,bq,a7,aT,aX,a6,bn),[],(It bp aY aW bm a8 aZ bq a7 aT aX a6 bn))
def KE (bp aY aW bm:Int) (a8:Bool) (aZ:Int) (bq:NI) (a7:Int) (aT aX a6:(List Int)) (bn:LM) (k:(UT×LM×Int)->Prop:=fun _=>True):Prop:=
 (MQ bp aY aW bm a8 aZ bq a7 aT aX a6 bn)/\(
 if(It bp aY aW bm a8 aZ bq a7 aT aX a6 bn)=0 then
  if(aT.length:Int)=0 then
   (H0 bp 3 0 bm false aZ bq a7 aT aX a6 bn aT)/\(
   k (((bp,3,0,bm,false,aZ,bq,a7,aT,aX,a6,bn),(HI bp 3 0 bm false aZ bq a7 aT aX a6 bn aT),0)))
  else
   (Rv bp 2 aW bm a8 aZ bq a7 aT aX a6 bn 4 0 aT)/\(
   k (((bp,2,aW,bm,a8,aZ,bq,a7,aT,aX,a6,bn),(KD bp 2 aW bm a8 aZ bq a7 aT aX a6 bn 4 0 aT),0)))
 else
  k (((bp,aY,aW,bm,a8,aZ,bq,a7,aT,aX,a6,bn),[],(It bp aY aW bm a8 aZ bq a7 aT aX a6 bn))))
theorem Zt {bp aY aW bm a8 aZ bq a7 aT aX a6 bn} (hP:KE bp aY aW bm a8 aZ bq a7 aT aX a6 bn):KE bp aY aW bm a8 aZ bq a7 aT aX a6 bn (Eq (Mn bp aY aW bm a8 aZ bq a7 aT aX a6 bn)):=Pc hP
def Qa (bp aY aW bm:Int) (a8:Bool) (aZ:Int) (bq:NI) (a7:Int) (aT aX a6:(List Int)) (bn:LM) (m1:NI):UT×LM×Int:=
 if(KT bp aY aW bm a8 aZ bq a7 aT aX a6 bn m1 5 (decide (aY=2)))=0 then
  if m1 8=0 then
   ((bp,4,2,bm,false,aZ,bq,a7,aT,aX,a6,bn),(HI bp 4 2 bm false aZ bq a7 aT aX a6 bn aT),0)
  else
   if((Hd aX (m1 1)).2)=true then
    if(aX.length:Int)<(aT.length:Int) then
     ((bp,aY,aW,bm,a8,aZ,bq,a7,aT,aX,a6,bn),[],0)
    else
     ((bp,3,0,bm,false,aZ,bq,a7,aT,aX,a6,bn),(HI bp 3 0 bm false aZ bq a7 aT aX a6 bn aT),0)
   else
    if((Iw (G3 aX) ((Hd aX (m1 1)).1).toNat (m1 1)).length:Int)<(aT.length:Int) then
     ((bp,aY,aW,bm,a8,aZ,bq,a7,aT,(Iw (G3 aX) ((Hd aX (m1 1)).1).toNat (m1 1)),a6,bn),[],0)
    else
     ((bp,3,0,bm,false,aZ,bq,a7,aT,(Iw (G3 aX) ((Hd aX (m1 1)).1).toNat (m1 1)),a6,bn),(HI bp 3 0 bm false aZ bq a7 aT (Iw (G3 aX) ((Hd aX (m1 1)).1).toNat (m1 1)) a6 bn aT),0)
 else
  ((bp,aY,aW,bm,a8,aZ,bq,a7,aT,aX,a6,bn),[],(KT bp aY aW bm a8 aZ bq a7 aT aX a6 bn m1 5 (decide (aY=2))))
def Nj (bp aY aW bm:Int) (a8:Bool) (aZ:Int) (bq:NI) (a7:Int) (aT aX a6:(List Int)) (bn:LM) (m1:NI) (k:(UT×LM×Int)->Prop:=fun _=>True):Prop:=
 (MQ bp aY aW bm a8 aZ bq a7 aT aX a6 bn)/\(
 (Nk bp aY aW bm a8 aZ bq a7 aT aX a6 bn m1 5 (decide (aY=2)))/\(
 if(KT bp aY aW bm a8 aZ bq a7 aT aX a6 bn m1 5 (decide (aY=2)))=0 then
  if m1 8=0 then
   (H0 bp 4 2 bm false aZ bq a7 aT aX a6 bn aT)/\(
   k (((bp,4,2,bm,false,aZ,bq,a7,aT,aX,a6,bn),(HI bp 4 2 bm false aZ bq a7 aT aX a6 bn aT),0)))
  else
   (Pq aX (m1 1))/\(
   if((Hd aX (m1 1)).2)=true then
    if(aX.length:Int)<(aT.length:Int) then
     k (((bp,aY,aW,bm,a8,aZ,bq,a7,aT,aX,a6,bn),[],0))
    else
     (H0 bp 3 0 bm false aZ bq a7 aT aX a6 bn aT)/\(
     k (((bp,3,0,bm,false,aZ,bq,a7,aT,aX,a6,bn),(HI bp 3 0 bm false aZ bq a7 aT aX a6 bn aT),0)))
   else
    (IW aX)/\(
    (0<=(Hd aX (m1 1)).1/\(Hd aX (m1 1)).1<=((G3 aX).length:Int))/\(
    (Pp (G3 aX))/\(
    if((Iw (G3 aX) ((Hd aX (m1 1)).1).toNat (m1 1)).length:Int)<(aT.length:Int) then
     k (((bp,aY,aW,bm,a8,aZ,bq,a7,aT,(Iw (G3 aX) ((Hd aX (m1 1)).1).toNat (m1 1)),a6,bn),[],0))
    else
     (H0 bp 3 0 bm false aZ bq a7 aT (Iw (G3 aX) ((Hd aX (m1 1)).1).toNat (m1 1)) a6 bn aT)/\(
     k (((bp,3,0,bm,false,aZ,bq,a7,aT,(Iw (G3 aX) ((Hd aX (m1 1)).1).toNat (m1 1)),a6,bn),(HI bp 3 0 bm false aZ bq a7 aT (Iw (G3 aX) ((Hd aX (m1 1)).1).toNat (m1 1)) a6 bn aT),0)))))))
 else
  k (((bp,aY,aW,bm,a8,aZ,bq,a7,aT,aX,a6,bn),[],(KT bp aY aW bm a8 aZ bq a7 aT aX a6 bn m1 5 (decide (aY=2)))))))
theorem Ac8 {bp aY aW bm a8 aZ bq a7 aT aX a6 bn m1} (hP:Nj bp aY aW bm a8 aZ bq a7 aT aX a6 bn m1):Nj bp aY aW bm a8 aZ bq a7 aT aX a6 bn m1 (Eq (Qa bp aY aW bm a8 aZ bq a7 aT aX a6 bn m1)):=Pc hP
def NV (bp aY aW bm:Int) (a8:Bool) (aZ:Int) (bq:NI) (a7:Int) (aT aX a6:(List Int)) (bn:LM) (bC:Int):UT×LM×Int:=
 if((decide (bC<1))||(decide (5<bC)))=true then
  ((bp,aY,aW,bm,a8,aZ,bq,a7,aT,aX,a6,bn),[],1)
 else
  if((Jg bp aY aW bm a8 aZ bq a7 aT aX a6 bn))=true then
   ((bp,aY,aW,bm,a8,aZ,bq,a7,aT,aX,a6,bn),[],15)
  else
   ((bp,4,bC,bm,false,aZ,bq,a7,aT,aX,a6,bn),(HI bp 4 bC bm false aZ bq a7 aT aX a6 bn aT),0)
def LO (bp aY aW bm:Int) (a8:Bool) (aZ:Int) (bq:NI) (a7:Int) (aT aX a6:(List Int)) (bn:LM) (bC:Int) (k:(UT×LM×Int)->Prop:=fun _=>True):Prop:=
 (MQ bp aY aW bm a8 aZ bq a7 aT aX a6 bn)/\(
 if((decide (bC<1))||(decide (5<bC)))=true then
  k (((bp,aY,aW,bm,a8,aZ,bq,a7,aT,aX,a6,bn),[],1))
 else
  if((Jg bp aY aW bm a8 aZ bq a7 aT aX a6 bn))=true then
   k (((bp,aY,aW,bm,a8,aZ,bq,a7,aT,aX,a6,bn),[],15))
  else
   (H0 bp 4 bC bm false aZ bq a7 aT aX a6 bn aT)/\(
   k (((bp,4,bC,bm,false,aZ,bq,a7,aT,aX,a6,bn),(HI bp 4 bC bm false aZ bq a7 aT aX a6 bn aT),0))))
theorem AbV {bp aY aW bm a8 aZ bq a7 aT aX a6 bn bC} (hP:LO bp aY aW bm a8 aZ bq a7 aT aX a6 bn bC):LO bp aY aW bm a8 aZ bq a7 aT aX a6 bn bC (Eq (NV bp aY aW bm a8 aZ bq a7 aT aX a6 bn bC)):=Pc hP
def SA (bp aY aW bm:Int) (a8:Bool) (aZ:Int) (bq:NI) (a7:Int) (aT aX a6:(List Int)) (bn:LM) (m1:NI):UT×Int:=
 if(KT bp aY aW bm a8 aZ bq a7 aT aX a6 bn m1 7 (Jg bp aY aW bm a8 aZ bq a7 aT aX a6 bn))=0 then
  if((Hd a6 (m1 1)).2)=true then
   ((bp,aY,aW,bm,a8,aZ,bq,a7,aT,aX,a6,bn),0)
  else
   ((bp,aY,aW,bm,a8,aZ,bq,a7,aT,aX,(Iw (G3 a6) ((Hd a6 (m1 1)).1).toNat (m1 1)),bn),0)
 else
  ((bp,aY,aW,bm,a8,aZ,bq,a7,aT,aX,a6,bn),(KT bp aY aW bm a8 aZ bq a7 aT aX a6 bn m1 7 (Jg bp aY aW bm a8 aZ bq a7 aT aX a6 bn)))
def Po (bp aY aW bm:Int) (a8:Bool) (aZ:Int) (bq:NI) (a7:Int) (aT aX a6:(List Int)) (bn:LM) (m1:NI) (k:(UT×Int)->Prop:=fun _=>True):Prop:=
 (MQ bp aY aW bm a8 aZ bq a7 aT aX a6 bn)/\(
 (Nk bp aY aW bm a8 aZ bq a7 aT aX a6 bn m1 7 (Jg bp aY aW bm a8 aZ bq a7 aT aX a6 bn))/\(
 if(KT bp aY aW bm a8 aZ bq a7 aT aX a6 bn m1 7 (Jg bp aY aW bm a8 aZ bq a7 aT aX a6 bn))=0 then
  (Pq a6 (m1 1))/\(
  if((Hd a6 (m1 1)).2)=true then
   k (((bp,aY,aW,bm,a8,aZ,bq,a7,aT,aX,a6,bn),0))
  else
   (IW a6)/\(
   (0<=(Hd a6 (m1 1)).1/\(Hd a6 (m1 1)).1<=((G3 a6).length:Int))/\(
   (Pp (G3 a6))/\(
   k (((bp,aY,aW,bm,a8,aZ,bq,a7,aT,aX,(Iw (G3 a6) ((Hd a6 (m1 1)).1).toNat (m1 1)),bn),0))))))
 else
  k (((bp,aY,aW,bm,a8,aZ,bq,a7,aT,aX,a6,bn),(KT bp aY aW bm a8 aZ bq a7 aT aX a6 bn m1 7 (Jg bp aY aW bm a8 aZ bq a7 aT aX a6 bn))))))
theorem Aff {bp aY aW bm a8 aZ bq a7 aT aX a6 bn m1} (hP:Po bp aY aW bm a8 aZ bq a7 aT aX a6 bn m1):Po bp aY aW bm a8 aZ bq a7 aT aX a6 bn m1 (Eq (SA bp aY aW bm a8 aZ bq a7 aT aX a6 bn m1)):=Pc hP
def NU (bp aY aW bm:Int) (a8:Bool) (aZ:Int) (bq:NI) (a7:Int) (aT aX a6:(List Int)) (bn:LM) (cY:Bool):LM:=
 if aY=1 then
  if(a8)=true then
   if(cY)=true then
    (([]++[(IX bp aY aW bm a8 aZ bq a7 aT aX a6 bn)])++(KD bp aY aW bm a8 aZ bq a7 aT aX a6 bn 8 0 aT))
   else
    ([]++[(IX bp aY aW bm a8 aZ bq a7 aT aX a6 bn)])
  else
   if(cY)=true then
    ([]++(KD bp aY aW bm a8 aZ bq a7 aT aX a6 bn 8 0 aT))
   else
    []
 else
  if aY=2 then
   (KD bp aY aW bm a8 aZ bq a7 aT aX a6 bn 4 0 (Ka bp aY aW bm a8 aZ bq a7 aT aX a6 bn aX))
  else
   if aY=3 then
    (HI bp aY aW bm a8 aZ bq a7 aT aX a6 bn (Ka bp aY aW bm a8 aZ bq a7 aT aX a6 bn a6))
   else
    if aY=4 then
     (HI bp aY aW bm a8 aZ bq a7 aT aX a6 bn (Ka bp aY aW bm a8 aZ bq a7 aT aX a6 bn a6))
    else
     []
def MF (bp aY aW bm:Int) (a8:Bool) (aZ:Int) (bq:NI) (a7:Int) (aT aX a6:(List Int)) (bn:LM) (cY:Bool) (k:(LM)->Prop:=fun _=>True):Prop:=
 if aY=1 then
  if(a8)=true then
   ((0+1)*224<=140737488355328)/\(
   if(cY)=true then
    (Rv bp aY aW bm a8 aZ bq a7 aT aX a6 bn 8 0 aT)/\(
    ((([]++[(IX bp aY aW bm a8 aZ bq a7 aT aX a6 bn)]).length+(KD bp aY aW bm a8 aZ bq a7 aT aX a6 bn 8 0 aT).length)*224<=140737488355328)/\(
    k ((([]++[(IX bp aY aW bm a8 aZ bq a7 aT aX a6 bn)])++(KD bp aY aW bm a8 aZ bq a7 aT aX a6 bn 8 0 aT)))))
   else
    k (([]++[(IX bp aY aW bm a8 aZ bq a7 aT aX a6 bn)])))
  else
   if(cY)=true then
    (Rv bp aY aW bm a8 aZ bq a7 aT aX a6 bn 8 0 aT)/\(
    ((0+(KD bp aY aW bm a8 aZ bq a7 aT aX a6 bn 8 0 aT).length)*224<=140737488355328)/\(
    k (([]++(KD bp aY aW bm a8 aZ bq a7 aT aX a6 bn 8 0 aT)))))
   else
    k ([])
 else
  if aY=2 then
   (T5 bp aY aW bm a8 aZ bq a7 aT aX a6 bn aX)/\(
   (Rv bp aY aW bm a8 aZ bq a7 aT aX a6 bn 4 0 (Ka bp aY aW bm a8 aZ bq a7 aT aX a6 bn aX))/\(
   k ((KD bp aY aW bm a8 aZ bq a7 aT aX a6 bn 4 0 (Ka bp aY aW bm a8 aZ bq a7 aT aX a6 bn aX)))))
  else
   if aY=3 then
    (T5 bp aY aW bm a8 aZ bq a7 aT aX a6 bn a6)/\(
    (H0 bp aY aW bm a8 aZ bq a7 aT aX a6 bn (Ka bp aY aW bm a8 aZ bq a7 aT aX a6 bn a6))/\(
    k ((HI bp aY aW bm a8 aZ bq a7 aT aX a6 bn (Ka bp aY aW bm a8 aZ bq a7 aT aX a6 bn a6)))))
   else
    if aY=4 then
     (T5 bp aY aW bm a8 aZ bq a7 aT aX a6 bn a6)/\(
     (H0 bp aY aW bm a8 aZ bq a7 aT aX a6 bn (Ka bp aY aW bm a8 aZ bq a7 aT aX a6 bn a6))/\(
     k ((HI bp aY aW bm a8 aZ bq a7 aT aX a6 bn (Ka bp aY aW bm a8 aZ bq a7 aT aX a6 bn a6)))))
    else
     k ([])
theorem AbT {bp aY aW bm a8 aZ bq a7 aT aX a6 bn cY} (hP:MF bp aY aW bm a8 aZ bq a7 aT aX a6 bn cY):MF bp aY aW bm a8 aZ bq a7 aT aX a6 bn cY (Eq (NU bp aY aW bm a8 aZ bq a7 aT aX a6 bn cY)):=Pc hP
end Go.E
namespace Go.E
open Go
def Adj (l:LM) (a b:Int):Prop:=∃ e∈l,e 0=a/\e 2=b
inductive Rt (l:LM):Int->Int->Prop
 | one {a b:Int}:Adj l a b->Rt l a b
 | more {a b c:Int}:Rt l a b->Adj l b c->Rt l a c
theorem Rt.trans {l:LM} {a b c:Int} (h:Rt l a b) (k:Rt l b c):Rt l a c:=by
 induction k with
 | one e=>exact .more h e
 | more _ e ih=>exact .more ih e
theorem Rt.first {l:LM} {a b:Int} (h:Rt l a b):∃ c,Adj l a c/\(c=b∨Rt l c b):=by
 induction h with
 | one e=>exact⟨_,e,.inl rfl⟩
 | more h e ih=>
  obtain⟨c,h1,h2⟩:=ih
  refine⟨c,h1,.inr ?_⟩
  rcases h2 with rfl | h2
  .exact .one e
  .exact .more h2 e
theorem Rt.mono {l m:LM} (hs:∀ e∈l,e∈m) {a b:Int} (h:Rt l a b):Rt m a b:=by
 induction h with
 | one e=>obtain⟨e,h1,h2⟩:=e;exact .one ⟨e,hs e h1,h2⟩
 | more _ e ih=>obtain⟨e,h1,h2⟩:=e;exact .more ih ⟨e,hs e h1,h2⟩
def SY (l:LM):List Int:=HL (Agq l)
theorem U0 {l:LM} {x:Int}:x∈SY l↔∃ e∈l,x=e 0∨x=e 2:=by
 unfold SY Agq
 rw[UZ,List.mem_flatMap]
 simp
theorem Adj.left {l:LM} {a b:Int} (h:Adj l a b):a∈SY l:=by
 obtain⟨e,h1,h2,_⟩:=h
 exact U0.2 ⟨e,h1,.inl h2.symm⟩
theorem Adj.right {l:LM} {a b:Int} (h:Adj l a b):b∈SY l:=by
 obtain⟨e,h1,_,h2⟩:=h
 exact U0.2 ⟨e,h1,.inr h2.symm⟩
theorem Rt.right {l:LM} {a b:Int} (h:Rt l a b):b∈SY l:=by
 cases h with
 | one e=>exact e.right
 | more _ e=>exact e.right
theorem Rt.left {l:LM} {a b:Int} (h:Rt l a b):a∈SY l:=by
 obtain⟨c,h1,_⟩:=h.first
 exact h1.left
theorem Qj:∀ {l m:List Int},l.Nodup->(∀ x∈l,x∈m)->l.length<=m.length
 | [],m,_,_=>Nat.zero_le _
 | x::r,m,h,hs=>by
  rw[List.nodup_cons] at h
  have hx:=hs x List.mem_cons_self
  have:r.length<=(m.erase x).length:=Qj h.2 fun y hy=>by
   have hne:y≠x:=fun e=>h.1 (e▸hy)
   exact(List.mem_erase_of_ne hne).2 (hs y (List.mem_cons_of_mem _ hy))
  rw[List.length_erase_of_mem hx] at this
  have:=List.length_pos_of_mem hx
  simp only[List.length_cons]
  omega
theorem Ox {l:List Int} (h:l.Pairwise fun a b=>a<b):l.Nodup:=h.imp fun h=> Aa
end Go.E
namespace Go.E
open Go
theorem Ae3 (m:Nat->Int) (h1:1<=m 0) (h2:m 0<=11):(((((decide (RD (⟨#[111,98,98,111,98,111,98,111,98,98,101]⟩:ByteArray) ((m 0)-1)=111))&&(!(((decide (m 1=0))&&(decide (1<=m 2)))&&(decide (m 2<=64)))))||((decide (RD (⟨#[111,98,98,111,98,111,98,111,98,98,101]⟩:ByteArray) ((m 0)-1)=98))&&(!(((decide (m 2=0))&&(decide (1<=m 1)))&&(decide (m 1<=64))))))||((!(((decide (m 1=0))&&(decide (1<=m 2)))&&(decide (m 2<=64))))&&(!(((decide (m 2=0))&&(decide (1<=m 1)))&&(decide (m 1<=64)))))))=!Oa m:=by
 have hs:∀ k:Nat,k<11->RD (⟨#[111,98,98,111,98,111,98,111,98,98,101]⟩:ByteArray) (((k:Int)+1)-1)=if k=0∨k=3∨k=5∨k=7 then 111 else if k=10 then 101 else 98:=by decide +kernel
 obtain⟨k,hk,e⟩:∃ k:Nat,k<11/\m 0=(k:Int)+1:=⟨(m 0-1).toNat,Aa,Aa⟩
 rw[e,hs k hk]
 unfold Oa shB M3
 rw[e]
 rcases(show k=0∨k=1∨k=2∨k=3∨k=4∨k=5∨k=6∨k=7∨k=8∨k=9∨k=10 by omega) with rfl | rfl | rfl | rfl | rfl | rfl | rfl | rfl | rfl | rfl | rfl
 all_goals (rw[Bool.eq_iff_iff];simp;try omega)
 by_cases h0:m 1=0
 .simp[h0];omega
 .simp[h0];omega
end Go.E
namespace Go.E
open Go
theorem AdA {m:Nat->Int} (h:Pf m=true):1<=m 0/\m 0<=11:=by
 have:=(Afr h).1
 unfold Pf S1 at h
 simp only[Bool.and_eq_true] at h
 obtain⟨⟨_,hm⟩,_⟩:=h
 repeat' split at hm
 all_goals first | omega | cases hm
def oth (m:Nat->Int):Prop:=
 ((m 0=1∨m 0=2)/\(1<=m 5/\m 5<=250/\0<=m 6/\m 6<=250)/\(1<=m 7/\m 7<=4)/\(1<=m 4/\m 4<=1048576)/\(1<=m 3/\m 3<=1048576)/\(m 8=0/\m 9=0)) ∨
 (m 0=3/\(1<=m 4/\m 4<=1048576)/\(1<=m 8/\m 8<=15)/\(1<=m 3/\m 3<=1048576)/\(m 5=0/\m 6=0/\m 7=0/\m 9=0)) ∨
 ((m 0=5∨m 0=6)/\(0<=m 8/\m 8<=1)/\(1<=m 3/\m 3<=1048576)/\(m 4=0/\m 5=0/\m 6=0/\m 7=0/\m 9=0)) ∨
 ((m 0=4∨m 0=7∨m 0=8∨m 0=9)/\(1<=m 3/\m 3<=1048576)/\(m 4=0/\m 5=0/\m 6=0/\m 7=0/\m 8=0/\m 9=0)) ∨
 (m 0=10/\(1<=m 3/\m 3<=1048576)/\(1<=m 9/\m 9<=1048576)/\m 9<m 3/\(m 4=0/\m 5=0/\m 6=0/\m 7=0/\m 8=0))
def zt (m:Nat->Int):Prop:=m 10=0/\m 11=0/\m 12=0/\m 13=0/\m 14=0/\m 15=0/\m 16=0/\m 17=0/\m 18=0/\m 19=0/\m 20=0/\m 21=0/\m 22=0/\m 23=0/\m 24=0/\m 25=0/\m 26=0/\m 27=0
theorem Afs (m:Nat->Int) (h:m 0≠11):Pf m=true↔Oa m=true/\oth m/\zt m:=by
 unfold Pf S1 TS QI
 generalize Oa m=E
 cases E
 .simp
 simp only[Bool.true_and,true_and]
 by_cases h1:m 0=1∨m 0=2
 .simp only[Ae h1,Bool.and_eq_true,H6,P1,Gq,GX,W0,M3,Pd,decide_eq_true_eq]
  simp[oth,zt]
  omega
 by_cases h2:m 0=3
 .simp only[Af h1,Ae h2,Bool.and_eq_true,H6,P1,Gq,GX,W0,M3,Pd,decide_eq_true_eq]
  simp[oth,zt]
  omega
 by_cases h3:m 0=5∨m 0=6
 .simp only[Af h1,Af h2,Ae h3,Bool.and_eq_true,H6,P1,Gq,GX,W0,M3,Pd,decide_eq_true_eq]
  simp[oth,zt]
  omega
 by_cases h4:m 0=4∨m 0=7∨m 0=8∨m 0=9
 .simp only[Af h1,Af h2,Af h3,Ae h4,Bool.and_eq_true,H6,P1,Gq,GX,W0,M3,Pd,decide_eq_true_eq]
  simp[oth,zt]
  omega
 by_cases h5:m 0=10
 .simp only[Af h1,Af h2,Af h3,Af h4,Ae h5,Bool.and_eq_true,H6,P1,Gq,GX,W0,M3,Pd,decide_eq_true_eq]
  simp[oth,zt]
  omega
 .simp only[Af h1,Af h2,Af h3,Af h4,Af h5,Af h]
  simp[oth]
  omega
end Go.E
namespace Go.E
open Go
abbrev T17:=Int×Int×Int×Int×Bool×Int×NI×Int×(List Int)×(List Int)×(List Int)×LM
abbrev TY (l:List Int):Prop:=l.Pairwise fun a b=>a<b
structure TI (n:Nat) (tx st re sq:Int) (op:Bool) (sh:Int) (at_:Nat->Int) (mo:Int) (to_ vo ac:List Int) (go:LM):Prop where
 htx:1<=tx/\tx<=1048576
 hst:1<=st/\st<=4
 hre:0<=re/\re<=5
 hre4:st=4↔0<re
 hsq:0<=sq/\sq<=1048576
 to1:TY to_
 to2:∀ s∈to_,1<=s/\s<=64
 vo1:TY vo
 vo2:∀ s∈vo,s∈to_
 ac1:TY ac
 ac2:∀ s∈ac,s∈to_
 hgo:go.length<=n
 hop:op=true->st=1/\1<=sq/\(1<=sh/\sh<=64)/\sh∈to_/\HQ at_=true/\(1<=mo/\mo<=4)
 vo3:st=3->vo.length=to_.length
 vo4:st=2->vo.length<to_.length
 vo5:st=1->vo=[]
 ac3:st=1∨st=2->ac=[]
def TIT (n:Nat) (t:T17):Prop:=TI n t.1 t.2.1 t.2.2.1 t.2.2.2.1 t.2.2.2.2.1 t.2.2.2.2.2.1 t.2.2.2.2.2.2.1 t.2.2.2.2.2.2.2.1 t.2.2.2.2.2.2.2.2.1 t.2.2.2.2.2.2.2.2.2.1 t.2.2.2.2.2.2.2.2.2.2.1 t.2.2.2.2.2.2.2.2.2.2.2
theorem Ad6 {l:List Int} (h:TY l) (h2:∀ s∈l,1<=s/\s<=64):l.length<=64:=by
 have:=Qj (Ox h) (m:=(List.range 64).map fun k:Nat=>(k:Int)+1) (fun x hx=>by
  obtain⟨h1,h3⟩:=h2 x hx
  exact List.mem_map.2 ⟨(x-1).toNat,by simp;omega,Aa⟩)
 simpa using this
section
variable {n:Nat} {tx st re sq:Int} {op:Bool} {sh:Int} {at_:Nat->Int} {mo:Int} {to_ vo ac:List Int} {go:LM}
theorem TI.mono {m:Nat} (h:TI n tx st re sq op sh at_ mo to_ vo ac go) (hm:n<=m):TI m tx st re sq op sh at_ mo to_ vo ac go:={h with hgo:=Nat.le_trans h.hgo hm}
theorem TI.lto (h:TI n tx st re sq op sh at_ mo to_ vo ac go):to_.length<=64:=Ad6 h.to1 h.to2
theorem TI.lvo (h:TI n tx st re sq op sh at_ mo to_ vo ac go):vo.length<=64:=Ad6 h.vo1 fun s hs=>h.to2 s (h.vo2 s hs)
theorem TI.lac (h:TI n tx st re sq op sh at_ mo to_ vo ac go):ac.length<=64:=Ad6 h.ac1 fun s hs=>h.to2 s (h.ac2 s hs)
theorem TI.own (h:TI n tx st re sq op sh at_ mo to_ vo ac go) (hn:n<=1000000):MQ tx st re sq op sh at_ mo to_ vo ac go:=by
 have h1:=h.lto
 have h2:=h.lvo
 have h3:=h.lac
 have h4:=h.hgo
 unfold MQ IW PX
 exact⟨Aa,Aa,Aa,Aa,trivial⟩
theorem AaL {l m:List Int} (h:TY l) (hs:∀ s∈l,s∈m):l.length<=m.length:=Qj (Ox h) hs
theorem Pl {a b:Int} {l:List Int} (h:l.length<=64):Rv tx st re sq op sh at_ mo to_ vo ac go a b l:=by unfold Rv;omega
theorem Lm {l:List Int} (h:l.length<=64):H0 tx st re sq op sh at_ mo to_ vo ac go l:=by
 unfold H0
 exact⟨Pl h,trivial⟩
theorem WI {l:List Int} {x:Int} (h:(Hd l x).2=true):Jh x l=l:=by rw[<- AaD,Ae h]
theorem Uo {l:List Int} {x:Int} (h:¬ (Hd l x).2=true):Iw (G3 l) ((Hd l x).1).toNat x=Jh x l:=by rw[<- AaD,Af h]
theorem Nm {l:List Int} (x:Int) (h:TY l) (hl:l.length<=64):Pq l x:=⟨h,Aa⟩
theorem Rg {l:List Int} (hl:l.length<=64):IW l:=by unfold IW;omega
theorem SD {l:List Int} (hl:l.length<=64):Pp (G3 l):=by unfold Pp G3;omega
theorem Rz:Jg tx st re sq op sh at_ mo to_ vo ac go=true↔st=3∨st=4:=by
 unfold Jg
 by_cases h3:st=3
 .simp[h3]
 .by_cases h4:st=4
  .simp[h4]
  .simp[h3,h4]
theorem TI.ask (h:TI n tx 1 re sq false sh at_ mo to_ vo ac go) (hq:sq≠1048576) {s m:Int} {a:Nat->Int} (hs:1<=s/\s<=64) (ha:HQ a=true) (hm:1<=m/\m<=4):TI n tx 1 re (sq+1) true s a m (Jh s to_) vo ac go:=by
 have h1:=h.hsq
 exact {h with
  hsq:=Aa
  to1:=JY h.to1
  to2:=fun x hx=>(K1.1 hx).elim (fun e=>e▸hs) (h.to2 x)
  vo2:=fun x hx=>by rw[h.vo5 rfl] at hx;simp at hx
  ac2:=fun x hx=>by rw[h.ac3 (.inl rfl)] at hx;simp at hx
  hop:=fun _=>⟨rfl,Aa,hs,K1.2 (.inl rfl),ha,hm⟩
  vo3:=fun e=> Aa
  vo4:=fun e=>by omega}
theorem TI.shut (h:TI n tx st re sq op sh at_ mo to_ vo ac go):TI n tx st re sq false sh at_ mo to_ vo ac go:={h with hop:=fun e=>by cases e}
theorem TI.got (h:TI n tx st re sq op sh at_ mo to_ vo ac go) (x:Nat->Int):TI (n+1) tx st re sq op sh at_ mo to_ vo ac (go++[x]):={h with hgo:=by have:=h.hgo;simp;omega}
theorem TI.prep (h:TI n tx 1 re sq false sh at_ mo to_ vo ac go) (ht:¬ (to_.length:Int)=0):TI n tx 2 re sq false sh at_ mo to_ vo ac go:=by
 have h1:=h.hre4
 exact {h with
  hst:=Aa
  hre4:=Aa
  hop:=fun e=>by cases e
  vo3:=fun e=> Aa
  vo4:=fun _=>by rw[h.vo5 rfl];simp;omega
  vo5:=fun e=> Aa
  ac3:=fun _=>h.ac3 (.inl rfl)}
theorem TI.commit (h:TI n tx st re sq op sh at_ mo to_ vo ac go) (hv:vo.length=to_.length):TI n tx 3 0 sq false sh at_ mo to_ vo ac go:=
 {h with
  hst:=Aa
  hre:=Aa
  hre4:=Aa
  hop:=fun e=>by cases e
  vo3:=fun _=>hv
  vo4:=fun e=> Aa
  vo5:=fun e=> Aa
  ac3:=fun e=>by omega}
theorem TI.abort (h:TI n tx st re sq op sh at_ mo to_ vo ac go) {r:Int} (hr:1<=r/\r<=5):TI n tx 4 r sq false sh at_ mo to_ vo ac go:=
 {h with
  hst:=Aa
  hre:=Aa
  hre4:=Aa
  hop:=fun e=>by cases e
  vo3:=fun e=> Aa
  vo4:=fun e=> Aa
  vo5:=fun e=> Aa
  ac3:=fun e=>by omega}
theorem Adr {s:Int} (h1:TY vo) (h2:∀ x∈vo,x∈to_) (hs:s∈to_):(Jh s vo).length<=to_.length:=AaL (JY h1) fun x hx=>(K1.1 hx).elim (fun e=>e▸hs) (h2 x)
theorem TI.vote (h:TI n tx 2 re sq op sh at_ mo to_ vo ac go) {s:Int} (hs:s∈to_) (hl:(Jh s vo).length<to_.length):TI n tx 2 re sq op sh at_ mo to_ (Jh s vo) ac go:=
 {h with
  vo1:=JY h.vo1
  vo2:=fun x hx=>(K1.1 hx).elim (fun e=>e▸hs) (h.vo2 x)
  vo3:=fun e=> Aa
  vo4:=fun _=>hl
  vo5:=fun e=>by omega}
theorem TI.votes (h:TI n tx 2 re sq op sh at_ mo to_ vo ac go) {s:Int} (hs:s∈to_) (hl:¬ (Jh s vo).length<to_.length):TI n tx 3 0 sq false sh at_ mo to_ (Jh s vo) ac go:=by
 have:=Adr h.vo1 h.vo2 hs
 exact {h with
  hst:=Aa
  hre:=Aa
  hre4:=Aa
  hop:=fun e=>by cases e
  vo1:=JY h.vo1
  vo2:=fun x hx=>(K1.1 hx).elim (fun e=>e▸hs) (h.vo2 x)
  vo3:=fun _=> Aa
  vo4:=fun e=> Aa
  vo5:=fun e=> Aa
  ac3:=fun e=>by omega}
theorem TI.ack (h:TI n tx st re sq op sh at_ mo to_ vo ac go) (hd:st=3∨st=4) {s:Int} (hs:s∈to_):TI n tx st re sq op sh at_ mo to_ vo (Jh s ac) go:=
 {h with
  ac1:=JY h.ac1
  ac2:=fun x hx=>(K1.1 hx).elim (fun e=>e▸hs) (h.ac2 x)
  ac3:=fun e=>by omega}
end
end Go.E
namespace Go.E
open Go
section
variable (tx st re sq:Int) (op:Bool) (sh:Int) (at_:Nat->Int) (mo:Int) (to_ vo ac:List Int) (go:LM)
def Aa5 (tx sq sh:Int) (at_:Nat->Int) (mo:Int):Nat->Int:=Gq (GX (Gq (Gq (Gq (Gq (fun _=>0) 0 1) 2 sh) 3 tx) 4 sq) 5 2 at_) 7 mo
def Ahh (m:Nat->Int):Nat->Int:=Gq (GX (Gq (Gq (fun _=>0) 0 (m 3)) 1 (m 4)) 2 2 (fun i=>m (5+i))) 4 (m 7)
def Lg (tx k:Int) (m:Nat->Int):Prop:=m 0=k/\Pf m=true/\m 3=tx
instance (tx k:Int) (m:Nat->Int):Decidable (Lg tx k m):=by unfold Lg;exact inferInstance
def Ts (s:Int) (a:Nat->Int) (m:Int):T17×LM×Int:=
 if(1<=s/\s<=64)/\HQ a=true/\(1<=m/\m<=4) then
  if st=1 then
   if op=true then((tx,st,re,sq,op,sh,at_,mo,to_,vo,ac,go),[],8)
   else if sq=1048576 then((tx,st,re,sq,op,sh,at_,mo,to_,vo,ac,go),[],6)
   else((tx,st,re,sq+1,true,s,a,m,Jh s to_,vo,ac,go),[Aa5 tx (sq+1) s a m],0)
  else((tx,st,re,sq,op,sh,at_,mo,to_,vo,ac,go),[],11)
 else((tx,st,re,sq,op,sh,at_,mo,to_,vo,ac,go),[],1)
def VO (m:Nat->Int):T17×Int:=
 if Lg tx 2 m∨Lg tx 3 m then
  if st=1 then
   if op=true/\m 4=sq/\m 1=sh/\(m 0=2->IJ 2 (fun i=>m (5+i)) at_=true) then((tx,st,re,sq,false,sh,at_,mo,to_,vo,ac,if m 0=2 then go++[Ahh m] else go),0)
   else((tx,st,re,sq,op,sh,at_,mo,to_,vo,ac,go),14)
  else((tx,st,re,sq,op,sh,at_,mo,to_,vo,ac,go),11)
 else((tx,st,re,sq,op,sh,at_,mo,to_,vo,ac,go),5)
def Tq:T17×LM×Int:=
 if st=1 then
  if op=true then((tx,st,re,sq,op,sh,at_,mo,to_,vo,ac,go),[],8)
  else if to_=[] then((tx,3,0,sq,false,sh,at_,mo,to_,vo,ac,go),to_.map (Li tx 6 1),0)
  else((tx,2,re,sq,op,sh,at_,mo,to_,vo,ac,go),to_.map (Li tx 4 0),0)
 else((tx,st,re,sq,op,sh,at_,mo,to_,vo,ac,go),[],11)
def O9 (m:Nat->Int):T17×LM×Int:=
 if Lg tx 5 m then
  if st=2 then
   if m 1∈to_ then
    if m 8=0 then((tx,4,2,sq,false,sh,at_,mo,to_,vo,ac,go),to_.map (Li tx 6 0),0)
    else if(Jh (m 1) vo).length<to_.length then((tx,st,re,sq,op,sh,at_,mo,to_,Jh (m 1) vo,ac,go),[],0)
    else((tx,3,0,sq,false,sh,at_,mo,to_,Jh (m 1) vo,ac,go),to_.map (Li tx 6 1),0)
   else((tx,st,re,sq,op,sh,at_,mo,to_,vo,ac,go),[],10)
  else((tx,st,re,sq,op,sh,at_,mo,to_,vo,ac,go),[],11)
 else((tx,st,re,sq,op,sh,at_,mo,to_,vo,ac,go),[],5)
def Le (r:Int):T17×LM×Int:=
 if 1<=r/\r<=5 then
  if st=3∨st=4 then((tx,st,re,sq,op,sh,at_,mo,to_,vo,ac,go),[],15)
  else((tx,4,r,sq,false,sh,at_,mo,to_,vo,ac,go),to_.map (Li tx 6 0),0)
 else((tx,st,re,sq,op,sh,at_,mo,to_,vo,ac,go),[],1)
def VQ (m:Nat->Int):T17×Int:=
 if Lg tx 7 m then
  if st=3∨st=4 then
   if m 1∈to_ then((tx,st,re,sq,op,sh,at_,mo,to_,vo,Jh (m 1) ac,go),0)
   else((tx,st,re,sq,op,sh,at_,mo,to_,vo,ac,go),10)
  else((tx,st,re,sq,op,sh,at_,mo,to_,vo,ac,go),11)
 else((tx,st,re,sq,op,sh,at_,mo,to_,vo,ac,go),5)
def Rl (tx st sq:Int) (op:Bool) (sh:Int) (at_:Nat->Int) (mo:Int) (to_ vo ac:List Int) (alive:Bool):LM:=
 if st=1 then(if op=true then [Aa5 tx sq sh at_ mo] else [])++(if alive=true then to_.map (Li tx 8 0) else [])
 else if st=2 then(Jp to_ vo).map (Li tx 4 0)
 else if st=3 then(Jp to_ ac).map (Li tx 6 1)
 else if st=4 then(Jp to_ ac).map (Li tx 6 0)
 else []
end
section
variable {n:Nat} {tx st re sq:Int} {op:Bool} {sh:Int} {at_:Nat->Int} {mo:Int} {to_ vo ac:List Int} {go:LM}
theorem Afe (h:TI n tx st re sq op sh at_ mo to_ vo ac go) (hn:n<=1000000) (s:Int) (a:Nat->Int) (m:Int) :
  Pn tx st re sq op sh at_ mo to_ vo ac go s a m/\Sz tx st re sq op sh at_ mo to_ vo ac go s a m=Ts tx st re sq op sh at_ mo to_ vo ac go s a m:=by
 have ho:=h.own hn
 have hq:=h.hsq
 unfold Pn Sz Ts
 by_cases hb:(1<=s/\s<=64)/\HQ a=true/\(1<=m/\m<=4)
 .have hb':¬ (((((decide (s<1))||(decide (64<s)))||(!((HQ a))))||(decide (m<1)))||(decide (4<m)))=true:=by
   simp only[Bool.or_eq_true,decide_eq_true_eq,Bool.not_eq_true']
   rintro((((h | h) | h) | h) | h)
   .omega
   .omega
   .rw[hb.2.1] at h;cases h
   .omega
   .omega
  rw[Af hb',Af hb',Ae hb]
  by_cases hs:st=1
  .rw[Ae hs]
   cases op with
   | true=>
    have hf:It tx st re sq true sh at_ mo to_ vo ac go=8:=by simp[It,hs]
    rw[hf,Af Ab,Af Ab,Ae rfl]
    exact⟨⟨ho,trivial⟩,rfl⟩
   | false=>
    have hf:It tx st re sq false sh at_ mo to_ vo ac go=0:=by simp[It,hs]
    rw[hf,Ae rfl,Ae rfl,Af Bool.false_ne_true]
    by_cases h6:sq=1048576
    .rw[Ae h6,Ae h6,Ae h6]
     exact⟨⟨ho,trivial⟩,rfl⟩
    .rw[Af h6,Af h6,Af h6]
     by_cases hc:(Hd to_ s).2=true
     .rw[Ae hc,Ae hc,WI hc]
      exact⟨⟨ho,⟨Aa,Aa⟩,Nm s h.to1 h.lto,trivial⟩,rfl⟩
     .rw[Af hc,Af hc,Uo hc]
      exact⟨⟨ho,⟨Aa,Aa⟩,Nm s h.to1 h.lto,Rg h.lto,SI,SD h.lto,trivial⟩,rfl⟩
  .have hf:It tx st re sq op sh at_ mo to_ vo ac go=11:=by simp[It,hs]
   rw[hf,Af Ab,Af Ab,Af hs]
   exact⟨⟨ho,trivial⟩,rfl⟩
 .have hb':(((((decide (s<1))||(decide (64<s)))||(!((HQ a))))||(decide (m<1)))||(decide (4<m)))=true:=by
   simp only[Bool.or_eq_true,decide_eq_true_eq,Bool.not_eq_true']
   cases hr:HQ a
   .simp
   .simp only[hr,true_and] at hb
    simp
    omega
  rw[Ae hb',Ae hb',Af hb]
  exact⟨⟨ho,trivial⟩,rfl⟩
theorem Wx {m:Nat->Int} {l:List Int} (hl:l.length<=64):Nl tx st re sq op sh at_ mo to_ vo ac go m l:=by
 unfold Nl L6
 refine⟨Aa,?_⟩
 exact GO (fun _=>trivial) (fun _=>trivial)
theorem AiG {k:Int} {m:Nat->Int}:Kb tx st re sq op sh at_ mo to_ vo ac go m [k]=if Lg tx k m then 0 else 5:=by
 unfold Kb IC
 simp only[List.mem_singleton,RT]
 by_cases h:Lg tx k m
 .obtain⟨h1,h2,h3⟩:=id h
  rw[Ae h,Af]
  simp[h1,h2,h3]
 .rw[Af h,Ae]
  simp only[Bool.or_eq_true,Bool.not_eq_true',decide_eq_false_iff_not]
  by_cases h1:m 0=k
  .by_cases h2:Pf m=true
   .exact .inr fun h3=>h (And.intro h1 (And.intro h2 h3))
   .exact .inl (.inr h2)
  .exact .inl (.inl h1)
theorem AiF {m:Nat->Int}:Kb tx st re sq op sh at_ mo to_ vo ac go m [2,3]=if Lg tx 2 m∨Lg tx 3 m then 0 else 5:=by
 unfold Kb IC
 simp only[List.mem_cons,List.not_mem_nil,or_false,RT]
 by_cases h:Lg tx 2 m∨Lg tx 3 m
 .rw[Ae h,Af]
  rcases h with ⟨h1,h2,h3⟩ | ⟨h1,h2,h3⟩ <;> simp[h1,h2,h3]
 .rw[Af h,Ae]
  simp only[Bool.or_eq_true,Bool.not_eq_true',decide_eq_false_iff_not]
  by_cases h1:m 0=2∨m 0=3
  .by_cases h2:Pf m=true
   .exact .inr fun h3=>h (h1.imp (fun e=>And.intro e (And.intro h2 h3)) fun e=>And.intro e (And.intro h2 h3))
   .exact .inl (.inr h2)
  .exact .inl (.inl h1)
theorem WQ (h:TI n tx st re sq op sh at_ mo to_ vo ac go) (hn:n<=1000000) (m:Nat->Int) :
  IL tx st re sq op sh at_ mo to_ vo ac go m/\I5 tx st re sq op sh at_ mo to_ vo ac go m=VO tx st re sq op sh at_ mo to_ vo ac go m:=by
 have ho:=h.own hn
 have hg:=h.hgo
 unfold IL I5 VO
 refine⟨⟨ho,Wx Ad,?_⟩,?_⟩
 .refine GO (fun _=>GO (fun _=>GO (fun _=>trivial) (fun _=>GO (fun _=>?_) (fun _=>trivial))) (fun _=>trivial)) (fun _=>trivial)
  exact⟨Aa,trivial⟩
 .rw[AiF]
  by_cases hf:Lg tx 2 m∨Lg tx 3 m
  .rw[Ae hf,Ae rfl,Ae hf]
   by_cases hs:st=1
   .rw[Ae hs,Ae hs]
    by_cases hc:op=true/\m 4=sq/\m 1=sh/\(m 0=2->IJ 2 (fun i=>m (5+i)) at_=true)
    .obtain⟨h1,h2,h3,h4⟩:=id hc
     have hc':¬ ((((!(op))||(!(decide (m 4=sq))))||(!(decide (m 1=sh))))||((decide (m 0=2))&&(!((IJ 2 (fun i=>m (5+i)) at_)))))=true:=by
      by_cases h5:m 0=2
      .simp[h1,h2,h3,h4 h5]
      .simp[h1,h2,h3,h5]
     rw[Af hc',Ae hc]
     by_cases h5:m 0=2
     .rw[Ae h5,Ae h5];rfl
     .rw[Af h5,Af h5]
    .have hc':((((!(op))||(!(decide (m 4=sq))))||(!(decide (m 1=sh))))||((decide (m 0=2))&&(!((IJ 2 (fun i=>m (5+i)) at_)))))=true:=by
      simp only[Bool.or_eq_true,Bool.not_eq_true',decide_eq_false_iff_not,Bool.and_eq_true,decide_eq_true_eq]
      by_cases h1:op=true
      .by_cases h2:m 4=sq
       .by_cases h3:m 1=sh
        .right
         by_cases h4:m 0=2/\IJ 2 (fun i=>m (5+i)) at_=false
         .exact h4
         .exfalso
          refine hc ⟨h1,h2,h3,fun e=>?_⟩
          cases hq:IJ 2 (fun i=>m (5+i)) at_
          .exact absurd ⟨e,hq⟩ h4
          .rfl
        .exact .inl (.inr h3)
       .exact .inl (.inl (.inr h2))
      .simp only[Bool.not_eq_true] at h1;exact .inl (.inl (.inl h1))
     rw[Ae hc',Af hc]
   .rw[Af hs,Af hs]
  .rw[Af hf,Af Ab,Af hf]
theorem Ad7 {l:List Int}:(l.length:Int)=0↔l=[]:=by
 rw[<- List.length_eq_zero_iff];omega
theorem Zu (h:TI n tx st re sq op sh at_ mo to_ vo ac go) (hn:n<=1000000) :
  KE tx st re sq op sh at_ mo to_ vo ac go/\Mn tx st re sq op sh at_ mo to_ vo ac go=Tq tx st re sq op sh at_ mo to_ vo ac go:=by
 have ho:=h.own hn
 unfold KE Mn Tq
 refine⟨⟨ho,GO (fun _=>GO (fun _=>⟨Lm h.lto,trivial⟩) (fun _=>⟨Pl h.lto,trivial⟩)) (fun _=>trivial)⟩,?_⟩
 by_cases hs:st=1
 .rw[Ae hs]
  cases op with
  | true=>
   have hf:It tx st re sq true sh at_ mo to_ vo ac go=8:=by simp[It,hs]
   rw[hf,Af Ab,Ae rfl]
  | false=>
   have hf:It tx st re sq false sh at_ mo to_ vo ac go=0:=by simp[It,hs]
   rw[hf,Ae rfl,Af Bool.false_ne_true]
   by_cases ht:to_=[]
   .rw[Ae (Ad7.2 ht),Ae ht];rfl
   .rw[Af (fun e=>ht (Ad7.1 e)),Af ht];rfl
 .have hf:It tx st re sq op sh at_ mo to_ vo ac go=11:=by simp[It,hs]
  rw[hf,Af Ab,Af hs]
theorem Ww (h:TI n tx st re sq op sh at_ mo to_ vo ac go) {m:Nat->Int} {k:Int} {b:Bool}:Nk tx st re sq op sh at_ mo to_ vo ac go m k b:=by
 have:=h.lto
 unfold Nk
 refine⟨Wx Ad,GO (fun _=>GO (fun _=>⟨by unfold L6;omega,GO (fun _=>trivial) (fun _=>trivial)⟩) (fun _=>trivial)) (fun _=>trivial)⟩
theorem Abe {m:Nat->Int} {k:Int} {b:Bool}:KT tx st re sq op sh at_ mo to_ vo ac go m k b=if Lg tx k m then if b=true then if m 1∈to_ then 0 else 10 else 11 else 5:=by
 unfold KT
 rw[AiG]
 by_cases hf:Lg tx k m
 .rw[Ae hf,Ae rfl,Ae hf]
  simp only[IC,decide_eq_true_eq]
 .rw[Af hf,Af Ab,Af hf]
theorem Ac9 (h:TI n tx st re sq op sh at_ mo to_ vo ac go) (hn:n<=1000000) (m:Nat->Int) :
  Nj tx st re sq op sh at_ mo to_ vo ac go m/\Qa tx st re sq op sh at_ mo to_ vo ac go m=O9 tx st re sq op sh at_ mo to_ vo ac go m:=by
 have ho:=h.own hn
 unfold Nj Qa O9
 refine⟨⟨ho,Ww h,?_⟩,?_⟩
 .refine GO (fun _=>GO (fun _=>⟨Lm h.lto,trivial⟩) (fun _=>⟨Nm _ h.vo1 h.lvo,GO (fun _=>GO (fun _=>trivial) (fun _=>⟨Lm h.lto,trivial⟩)) (fun _=>⟨Rg h.lvo,SI,SD h.lvo,GO (fun _=>trivial) (fun _=>⟨Lm h.lto,trivial⟩)⟩)⟩)) (fun _=>trivial)
 .rw[Abe]
  by_cases hf:Lg tx 5 m
  .rw[Ae hf,Ae hf]
   by_cases hs:st=2
   .rw[Ae (decide_eq_true hs),Ae hs]
    by_cases hm:m 1∈to_
    .rw[Ae hm,Ae rfl,Ae hm]
     by_cases h8:m 8=0
     .rw[Ae h8,Ae h8];rfl
     .rw[Af h8,Af h8]
      by_cases hc:(Hd vo (m 1)).2=true
      .rw[Ae hc,WI hc]
       by_cases hl:vo.length<to_.length
       .rw[Ae Aa,Ae hl]
       .rw[Af Aa,Af hl];rfl
      .rw[Af hc,Uo hc]
       by_cases hl:(Jh (m 1) vo).length<to_.length
       .rw[Ae Aa,Ae hl]
       .rw[Af Aa,Af hl];rfl
    .rw[Af hm,Af Ab,Af hm]
   .rw[Af (show ¬ decide (st=2)=true by simpa using hs),Af (show ¬ (11:Int)=0 by decide),Af hs]
  .rw[Af hf,Af Ab,Af hf]
theorem AbW (h:TI n tx st re sq op sh at_ mo to_ vo ac go) (hn:n<=1000000) (r:Int) :
  LO tx st re sq op sh at_ mo to_ vo ac go r/\NV tx st re sq op sh at_ mo to_ vo ac go r=Le tx st re sq op sh at_ mo to_ vo ac go r:=by
 have ho:=h.own hn
 unfold LO NV Le
 refine⟨⟨ho,GO (fun _=>trivial) (fun _=>GO (fun _=>trivial) (fun _=>⟨Lm h.lto,trivial⟩))⟩,?_⟩
 by_cases hr:1<=r/\r<=5
 .rw[Af (by simp;omega),Ae hr]
  by_cases hd:st=3∨st=4
  .rw[Ae (Rz.2 hd),Ae hd]
  .rw[Af (fun e=>hd (Rz.1 e)),Af hd];rfl
 .rw[Ae (by simp;omega),Af hr]
theorem Afg (h:TI n tx st re sq op sh at_ mo to_ vo ac go) (hn:n<=1000000) (m:Nat->Int) :
  Po tx st re sq op sh at_ mo to_ vo ac go m/\SA tx st re sq op sh at_ mo to_ vo ac go m=VQ tx st re sq op sh at_ mo to_ vo ac go m:=by
 have ho:=h.own hn
 unfold Po SA VQ
 refine⟨⟨ho,Ww h,?_⟩,?_⟩
 .refine GO (fun _=>⟨Nm _ h.ac1 h.lac,GO (fun _=>trivial) (fun _=>⟨Rg h.lac,SI,SD h.lac,trivial⟩)⟩) (fun _=>trivial)
 .rw[Abe]
  by_cases hf:Lg tx 7 m
  .rw[Ae hf,Ae hf]
   by_cases hs:st=3∨st=4
   .rw[Ae (Rz.2 hs),Ae hs]
    by_cases hm:m 1∈to_
    .rw[Ae hm,Ae rfl,Ae hm]
     by_cases hc:(Hd ac (m 1)).2=true
     .rw[Ae hc,WI hc]
     .rw[Af hc,Uo hc]
    .rw[Af hm,Af Ab,Af hm]
   .rw[Af (fun e=>hs (Rz.1 e)),Af Ab,Af hs]
  .rw[Af hf,Af Ab,Af hf]
theorem Qm (l but:List Int):(Jp l but).length<=l.length:=List.length_filter_le _ _
theorem AbU (h:TI n tx st re sq op sh at_ mo to_ vo ac go) (b:Bool) :
  MF tx st re sq op sh at_ mo to_ vo ac go b/\NU tx st re sq op sh at_ mo to_ vo ac go b=Rl tx st sq op sh at_ mo to_ vo ac b:=by
 have h1:=h.lto
 have h2:=h.lvo
 have h3:=h.lac
 have hl:=fun but=>Qm to_ but
 unfold MF NU Rl
 have hv:=hl vo
 have ha:=hl ac
 refine⟨?_,?_⟩
 .refine GO (fun _=>GO (fun _=>⟨Aa,GO (fun _=>⟨Pl h1,?_,trivial⟩) (fun _=>trivial)⟩) (fun _=>GO (fun _=>⟨Pl h1,?_,trivial⟩) (fun _=>trivial))) (fun _=>GO (fun _=>⟨⟨Aa,Aa⟩,Pl (Nat.le_trans hv h1),trivial⟩) (fun _=>GO (fun _=>⟨⟨Aa,Aa⟩,Lm (Nat.le_trans ha h1),trivial⟩) (fun _=>GO (fun _=>⟨⟨Aa,Aa⟩,Lm (Nat.le_trans ha h1),trivial⟩) (fun _=>trivial))))
  .simp[KD];omega
  .simp[KD];omega
 .by_cases s1:st=1
  .rw[Ae s1,Ae s1]
   cases op <;> cases b <;> simp[KD,IX,Aa5]
  .rw[Af s1,Af s1]
   by_cases s2:st=2
   .rw[Ae s2,Ae s2];rfl
   .rw[Af s2,Af s2]
    by_cases s3:st=3
    .rw[Ae s3,Ae s3]
     simp[HI,KD,Ka,s3]
    .rw[Af s3,Af s3]
     by_cases s4:st=4
     .rw[Ae s4,Ae s4]
      simp[HI,KD,Ka,s3]
     .rw[Af s4,Af s4]
end
end Go.E
namespace Go.E
open Go
section
variable {n:Nat} {tx st re sq:Int} {op:Bool} {sh:Int} {at_:Nat->Int} {mo:Int} {to_ vo ac:List Int} {go:LM}
theorem Aby (h:TI n tx st re sq op sh at_ mo to_ vo ac go) (s:Int) (a:Nat->Int) (m:Int):TIT (n+1) (Ts tx st re sq op sh at_ mo to_ vo ac go s a m).1:=by
 have h':=h.mono (Nat.le_succ n)
 unfold Ts
 by_cases hb:(1<=s/\s<=64)/\HQ a=true/\(1<=m/\m<=4)
 .rw[Ae hb]
  by_cases hs:st=1
  .rw[Ae hs]
   cases op with
   | true=>rw[Ae rfl];exact h'
   | false=>
    rw[Af Bool.false_ne_true]
    by_cases h6:sq=1048576
    .rw[Ae h6];exact h'
    .rw[Af h6]
     subst hs
     exact h'.ask h6 hb.1 hb.2.1 hb.2.2
  .rw[Af hs];exact h'
 .rw[Af hb];exact h'
theorem AbA (h:TI n tx st re sq op sh at_ mo to_ vo ac go) (m:Nat->Int):TIT (n+1) (VO tx st re sq op sh at_ mo to_ vo ac go m).1:=by
 have h':=h.mono (Nat.le_succ n)
 unfold VO
 by_cases hf:Lg tx 2 m∨Lg tx 3 m
 .rw[Ae hf]
  by_cases hs:st=1
  .rw[Ae hs]
   by_cases hc:op=true/\m 4=sq/\m 1=sh/\(m 0=2->IJ 2 (fun i=>m (5+i)) at_=true)
   .rw[Ae hc]
    by_cases h2:m 0=2
    .rw[Ae h2];exact(h.got _).shut
    .rw[Af h2];exact h'.shut
   .rw[Af hc];exact h'
  .rw[Af hs];exact h'
 .rw[Af hf];exact h'
theorem Abn (h:TI n tx st re sq op sh at_ mo to_ vo ac go):TIT (n+1) (Tq tx st re sq op sh at_ mo to_ vo ac go).1:=by
 have h':=h.mono (Nat.le_succ n)
 unfold Tq
 by_cases hs:st=1
 .rw[Ae hs]
  cases op with
  | true=>rw[Ae rfl];exact h'
  | false=>
   rw[Af Bool.false_ne_true]
   by_cases ht:to_=[]
   .rw[Ae ht]
    exact h'.commit (by rw[h.vo5 hs,ht])
   .rw[Af ht]
    subst hs
    exact h'.prep (fun e=>ht (Ad7.1 e))
 .rw[Af hs];exact h'
theorem XZ (h:TI n tx st re sq op sh at_ mo to_ vo ac go) (m:Nat->Int):TIT (n+1) (O9 tx st re sq op sh at_ mo to_ vo ac go m).1:=by
 have h':=h.mono (Nat.le_succ n)
 unfold O9
 by_cases hf:Lg tx 5 m
 .rw[Ae hf]
  by_cases hs:st=2
  .rw[Ae hs]
   by_cases hm:m 1∈to_
   .rw[Ae hm]
    by_cases h8:m 8=0
    .rw[Ae h8];exact h'.abort (r:=2) Aa
    .rw[Af h8]
     subst hs
     by_cases hl:(Jh (m 1) vo).length<to_.length
     .rw[Ae hl];exact h'.vote hm hl
     .rw[Af hl];exact h'.votes hm hl
   .rw[Af hm];exact h'
  .rw[Af hs];exact h'
 .rw[Af hf];exact h'
theorem Ty (h:TI n tx st re sq op sh at_ mo to_ vo ac go) (r:Int):TIT (n+1) (Le tx st re sq op sh at_ mo to_ vo ac go r).1:=by
 have h':=h.mono (Nat.le_succ n)
 unfold Le
 by_cases hr:1<=r/\r<=5
 .rw[Ae hr]
  by_cases hd:st=3∨st=4
  .rw[Ae hd];exact h'
  .rw[Af hd];exact h'.abort hr
 .rw[Af hr];exact h'
theorem AbC (h:TI n tx st re sq op sh at_ mo to_ vo ac go) (m:Nat->Int):TIT (n+1) (VQ tx st re sq op sh at_ mo to_ vo ac go m).1:=by
 have h':=h.mono (Nat.le_succ n)
 unfold VQ
 by_cases hf:Lg tx 7 m
 .rw[Ae hf]
  by_cases hd:st=3∨st=4
  .rw[Ae hd]
   by_cases hm:m 1∈to_
   .rw[Ae hm];exact h'.ack hd hm
   .rw[Af hm];exact h'
  .rw[Af hd];exact h'
 .rw[Af hf];exact h'
theorem AgW {t:Int} (h:1<=t/\t<=1048576):TI 0 t 1 0 0 false 0 (fun _=>0) 0 [] [] [] [] where
 htx:=h
 hst:=Aa
 hre:=Aa
 hre4:=Aa
 hsq:=Aa
 to1:=.nil
 to2:=fun s hs=>by simp at hs
 vo1:=.nil
 vo2:=fun s hs=>by simp at hs
 ac1:=.nil
 ac2:=fun s hs=>by simp at hs
 hgo:=Nat.le_refl 0
 hop:=fun e=>by cases e
 vo3:=fun e=> Aa
 vo4:=fun e=> Aa
 vo5:=fun _=>rfl
 ac3:=fun _=>rfl
theorem Afc {t:Int}:G8 t=if 1<=t/\t<=1048576 then((t,1,0,0,false,0,(fun _=>0),0,[],[],[],[]),0) else((0,0,0,0,false,0,(fun _=>0),0,[],[],[],[]),1):=by
 unfold G8
 by_cases h:1<=t/\t<=1048576
 .rw[Af (by simp;omega),Ae h]
 .rw[Ae (by simp;omega),Af h]
end
end Go.E
namespace Go.E
open Go
def Hq (bu za:NI) (zf zd:Int) (zc:UM) (zb:LM) (cm bM bO dE:Int) (cK:Bool) (cw:Int) (fB:NI) (cL:Int) (bW cu cM:(List Int)) (dG:LM):UM×LM×NI:=
 if(H5 HT zc cm (0,0,0,0,false,0,(fun _=>0),0,[],[],[],[])).2.1=bM then
  (IH HT zc cm (cm,bM,bO,dE,cK,cw,fB,cL,bW,cu,cM,dG),zb,za)
 else
  if bM=2 then
   (IH HT zc cm (cm,bM,bO,dE,cK,cw,fB,cL,bW,cu,cM,dG),(zb++[(Gq (Gq (fun _=>0) 0 5) 2 cm)]),za)
  else
   if bM=4 then
    (IH HT zc cm (cm,bM,bO,dE,cK,cw,fB,cL,bW,cu,cM,dG),(zb++[(Gq (Gq (Gq (fun _=>0) 0 7) 2 cm) 6 bO)]),(PY za cm).2)
   else
    if bM=3 then
     (IH HT zc cm (cm,bM,bO,dE,cK,cw,fB,cL,bW,cu,cM,dG),(zb++[(Gq (Gq (fun _=>0) 0 6) 2 cm)]),(PY za cm).2)
    else
     (IH HT zc cm (cm,bM,bO,dE,cK,cw,fB,cL,bW,cu,cM,dG),zb,za)
def IZ (bu za:NI) (zf zd:Int) (zc:UM) (zb:LM) (cm bM bO dE:Int) (cK:Bool) (cw:Int) (fB:NI) (cL:Int) (bW cu cM:(List Int)) (dG:LM) (k:(UM×LM×NI)->Prop:=fun _=>True):Prop:=
 if(H5 HT zc cm (0,0,0,0,false,0,(fun _=>0),0,[],[],[],[])).2.1=bM then
  k ((IH HT zc cm (cm,bM,bO,dE,cK,cw,fB,cL,bW,cu,cM,dG),zb,za))
 else
  if bM=2 then
   ((zb.length+1)*56<=140737488355328)/\(
   k ((IH HT zc cm (cm,bM,bO,dE,cK,cw,fB,cL,bW,cu,cM,dG),(zb++[(Gq (Gq (fun _=>0) 0 5) 2 cm)]),za)))
  else
   if bM=4 then
    ((zb.length+1)*56<=140737488355328)/\(
    (O4 za cm)/\(
    k ((IH HT zc cm (cm,bM,bO,dE,cK,cw,fB,cL,bW,cu,cM,dG),(zb++[(Gq (Gq (Gq (fun _=>0) 0 7) 2 cm) 6 bO)]),(PY za cm).2))))
   else
    if bM=3 then
     ((zb.length+1)*56<=140737488355328)/\(
     (O4 za cm)/\(
     k ((IH HT zc cm (cm,bM,bO,dE,cK,cw,fB,cL,bW,cu,cM,dG),(zb++[(Gq (Gq (fun _=>0) 0 6) 2 cm)]),(PY za cm).2))))
    else
     k ((IH HT zc cm (cm,bM,bO,dE,cK,cw,fB,cL,bW,cu,cM,dG),zb,za))
theorem OO {bu za zf zd zc zb cm bM bO dE cK cw fB cL bW cu cM dG} (hP:IZ bu za zf zd zc zb cm bM bO dE cK cw fB cL bW cu cM dG):IZ bu za zf zd zc zb cm bM bO dE cK cw fB cL bW cu cM dG (Eq (Hq bu za zf zd zc zb cm bM bO dE cK cw fB cL bW cu cM dG)):=Pc hP
def Hb (bu za:NI) (zf zd:Int) (zc:UM) (zb:LM):(List Int):=
 (Hu zc)
def Rh (bu za:NI) (zf zd:Int) (zc:UM) (zb:LM) (k:((List Int))->Prop:=fun _=>True):Prop:=
 (NC zc)/\(
 k ((Hu zc)))
theorem XJ {bu za zf zd zc zb} (hP:Rh bu za zf zd zc zb):Rh bu za zf zd zc zb (Eq (Hb bu za zf zd zc zb)):=Pc hP
def Gv (bu za:NI) (zf zd:Int) (zc:UM) (zb:LM) (bv:Int):Int×NI:=
 if((Jd za bv))=true then
  (0,za)
 else
  if((LF ((Jb za bv 1048576).1) 11))=true then
   ((Jb za bv 1048576).1,(Jb za bv 1048576).2)
  else
   (10,(Jb za bv 1048576).2)
def I7 (bu za:NI) (zf zd:Int) (zc:UM) (zb:LM) (bv:Int) (k:(Int×NI)->Prop:=fun _=>True):Prop:=
 (Kl za bv)/\(
 if((Jd za bv))=true then
  k ((0,za))
 else
  (LZ za bv 1048576)/\(
  (LD ((Jb za bv 1048576).1) 11)/\(
  if((LF ((Jb za bv 1048576).1) 11))=true then
   k (((Jb za bv 1048576).1,(Jb za bv 1048576).2))
  else
   k ((10,(Jb za bv 1048576).2)))))
theorem N5 {bu za zf zd zc zb bv} (hP:I7 bu za zf zd zc zb bv):I7 bu za zf zd zc zb bv (Eq (Gv bu za zf zd zc zb bv)):=Pc hP
def GT (bu za:NI) (zf zd:Int) (zc:UM) (zb:LM) (bv:Int):Int×Int×Int×UM×LM×NI:=
 if(Gv bu za zf zd zc zb bv).1=0 then
  if(G5 ((Gv bu za zf zd zc zb bv).2) bv).2=0 then
   (0,8,zd,zc,zb,(Gv bu za zf zd zc zb bv).2)
  else
   if(G8 (zd+1)).2=0 then
    (((G8 (zd+1)).1).1,0,zd+1,IH HT zc (((G8 (zd+1)).1).1) (((G8 (zd+1)).1).1,((G8 (zd+1)).1).2.1,((G8 (zd+1)).1).2.2.1,((G8 (zd+1)).1).2.2.2.1,((G8 (zd+1)).1).2.2.2.2.1,((G8 (zd+1)).1).2.2.2.2.2.1,((G8 (zd+1)).1).2.2.2.2.2.2.1,((G8 (zd+1)).1).2.2.2.2.2.2.2.1,((G8 (zd+1)).1).2.2.2.2.2.2.2.2.1,((G8 (zd+1)).1).2.2.2.2.2.2.2.2.2.1,((G8 (zd+1)).1).2.2.2.2.2.2.2.2.2.2.1,((G8 (zd+1)).1).2.2.2.2.2.2.2.2.2.2.2),(zb++[(Gq (Gq (Gq (fun _=>0) 0 1) 1 bv) 2 (((G8 (zd+1)).1).1))]),(Jb ((Gv bu za zf zd zc zb bv).2) bv (((G8 (zd+1)).1).1)).2)
   else
    (0,6,zd,zc,zb,(Gv bu za zf zd zc zb bv).2)
 else
  (0,(Gv bu za zf zd zc zb bv).1,zd,zc,zb,(Gv bu za zf zd zc zb bv).2)
def K6 (bu za:NI) (zf zd:Int) (zc:UM) (zb:LM) (bv:Int) (k:(Int×Int×Int×UM×LM×NI)->Prop:=fun _=>True):Prop:=
 (I7 bu za zf zd zc zb bv)/\(
 if(Gv bu za zf zd zc zb bv).1=0 then
  (Ly ((Gv bu za zf zd zc zb bv).2) bv)/\(
  if(G5 ((Gv bu za zf zd zc zb bv).2) bv).2=0 then
   k ((0,8,zd,zc,zb,(Gv bu za zf zd zc zb bv).2))
  else
   (GN (zd+1))/\(
   if(G8 (zd+1)).2=0 then
    (GN (zd+1))/\(
    (LZ ((Gv bu za zf zd zc zb bv).2) bv (((G8 (zd+1)).1).1))/\(
    ((zb.length+1)*56<=140737488355328)/\(
    k ((((G8 (zd+1)).1).1,0,zd+1,IH HT zc (((G8 (zd+1)).1).1) (((G8 (zd+1)).1).1,((G8 (zd+1)).1).2.1,((G8 (zd+1)).1).2.2.1,((G8 (zd+1)).1).2.2.2.1,((G8 (zd+1)).1).2.2.2.2.1,((G8 (zd+1)).1).2.2.2.2.2.1,((G8 (zd+1)).1).2.2.2.2.2.2.1,((G8 (zd+1)).1).2.2.2.2.2.2.2.1,((G8 (zd+1)).1).2.2.2.2.2.2.2.2.1,((G8 (zd+1)).1).2.2.2.2.2.2.2.2.2.1,((G8 (zd+1)).1).2.2.2.2.2.2.2.2.2.2.1,((G8 (zd+1)).1).2.2.2.2.2.2.2.2.2.2.2),(zb++[(Gq (Gq (Gq (fun _=>0) 0 1) 1 bv) 2 (((G8 (zd+1)).1).1))]),(Jb ((Gv bu za zf zd zc zb bv).2) bv (((G8 (zd+1)).1).1)).2)))))
   else
    k ((0,6,zd,zc,zb,(Gv bu za zf zd zc zb bv).2))))
 else
  k ((0,(Gv bu za zf zd zc zb bv).1,zd,zc,zb,(Gv bu za zf zd zc zb bv).2)))
theorem Wq {bu za zf zd zc zb bv} (hP:K6 bu za zf zd zc zb bv):K6 bu za zf zd zc zb bv (Eq (GT bu za zf zd zc zb bv)):=Pc hP
def Xm (bu za:NI) (zf zd:Int) (zc:UM) (zb:LM) (bv:Int) (d4:NI) (m3:Int) (r:LM×Int×UM×LM×NI):Prop:=
 (I7 bu za zf zd zc zb bv)/\(
 if(Gv bu za zf zd zc zb bv).1=0 then
  (Ly ((Gv bu za zf zd zc zb bv).2) bv)/\(
  if(G5 ((Gv bu za zf zd zc zb bv).2) bv).2=0 then
   ∃ bw:UT,bw=H5 HT zc ((G5 ((Gv bu za zf zd zc zb bv).2) bv).1) (0,0,0,0,false,0,(fun _=>0),0,[],[],[],[])/\(
   (JZ d4 (bu 0))/\(
   if(Hf d4 (bu 0)).2=0 then
    (Pn ((bw).1) ((bw).2.1) ((bw).2.2.1) ((bw).2.2.2.1) ((bw).2.2.2.2.1) ((bw).2.2.2.2.2.1) ((bw).2.2.2.2.2.2.1) ((bw).2.2.2.2.2.2.2.1) ((bw).2.2.2.2.2.2.2.2.1) ((bw).2.2.2.2.2.2.2.2.2.1) ((bw).2.2.2.2.2.2.2.2.2.2.1) ((bw).2.2.2.2.2.2.2.2.2.2.2) ((Hf d4 (bu 0)).1) d4 m3)/\(
    ∃ zg:UT×LM×Int,zg=(Sz ((bw).1) ((bw).2.1) ((bw).2.2.1) ((bw).2.2.2.1) ((bw).2.2.2.2.1) ((bw).2.2.2.2.2.1) ((bw).2.2.2.2.2.2.1) ((bw).2.2.2.2.2.2.2.1) ((bw).2.2.2.2.2.2.2.2.1) ((bw).2.2.2.2.2.2.2.2.2.1) ((bw).2.2.2.2.2.2.2.2.2.2.1) ((bw).2.2.2.2.2.2.2.2.2.2.2) ((Hf d4 (bu 0)).1) d4 m3)/\(
    if zg.2.2=0 then
     ((zb.length+1)*56<=140737488355328)/\(
     (IZ bu ((Gv bu za zf zd zc zb bv).2) zf zd zc (zb++[(Gq (GX (Gq (Gq (fun _=>0) 0 2) 2 zg.1.1) 3 2 d4) 5 m3)]) zg.1.1 zg.1.2.1 zg.1.2.2.1 zg.1.2.2.2.1 zg.1.2.2.2.2.1 zg.1.2.2.2.2.2.1 zg.1.2.2.2.2.2.2.1 zg.1.2.2.2.2.2.2.2.1 zg.1.2.2.2.2.2.2.2.2.1 zg.1.2.2.2.2.2.2.2.2.2.1 zg.1.2.2.2.2.2.2.2.2.2.2.1 zg.1.2.2.2.2.2.2.2.2.2.2.2)/\(
     r=((zg.2.1,0,(Hq bu ((Gv bu za zf zd zc zb bv).2) zf zd zc (zb++[(Gq (GX (Gq (Gq (fun _=>0) 0 2) 2 zg.1.1) 3 2 d4) 5 m3)]) zg.1.1 zg.1.2.1 zg.1.2.2.1 zg.1.2.2.2.1 zg.1.2.2.2.2.1 zg.1.2.2.2.2.2.1 zg.1.2.2.2.2.2.2.1 zg.1.2.2.2.2.2.2.2.1 zg.1.2.2.2.2.2.2.2.2.1 zg.1.2.2.2.2.2.2.2.2.2.1 zg.1.2.2.2.2.2.2.2.2.2.2.1 zg.1.2.2.2.2.2.2.2.2.2.2.2).1,(Hq bu ((Gv bu za zf zd zc zb bv).2) zf zd zc (zb++[(Gq (GX (Gq (Gq (fun _=>0) 0 2) 2 zg.1.1) 3 2 d4) 5 m3)]) zg.1.1 zg.1.2.1 zg.1.2.2.1 zg.1.2.2.2.1 zg.1.2.2.2.2.1 zg.1.2.2.2.2.2.1 zg.1.2.2.2.2.2.2.1 zg.1.2.2.2.2.2.2.2.1 zg.1.2.2.2.2.2.2.2.2.1 zg.1.2.2.2.2.2.2.2.2.2.1 zg.1.2.2.2.2.2.2.2.2.2.2.1 zg.1.2.2.2.2.2.2.2.2.2.2.2).2.1,(Hq bu ((Gv bu za zf zd zc zb bv).2) zf zd zc (zb++[(Gq (GX (Gq (Gq (fun _=>0) 0 2) 2 zg.1.1) 3 2 d4) 5 m3)]) zg.1.1 zg.1.2.1 zg.1.2.2.1 zg.1.2.2.2.1 zg.1.2.2.2.2.1 zg.1.2.2.2.2.2.1 zg.1.2.2.2.2.2.2.1 zg.1.2.2.2.2.2.2.2.1 zg.1.2.2.2.2.2.2.2.2.1 zg.1.2.2.2.2.2.2.2.2.2.1 zg.1.2.2.2.2.2.2.2.2.2.2.1 zg.1.2.2.2.2.2.2.2.2.2.2.2).2.2))))
    else
     r=(([],zg.2.2,zc,zb,(Gv bu za zf zd zc zb bv).2))))
   else
    r=(([],1,zc,zb,(Gv bu za zf zd zc zb bv).2))))
  else
   r=(([],(G5 ((Gv bu za zf zd zc zb bv).2) bv).2,zc,zb,(Gv bu za zf zd zc zb bv).2)))
 else
  r=(([],(Gv bu za zf zd zc zb bv).1,zc,zb,(Gv bu za zf zd zc zb bv).2)))
def Ih (bu za:NI) (zf zd:Int) (zc:UM) (zb:LM) (bv:Int) (d4:NI) (m3:Int):LM×Int×UM×LM×NI:=
 if(Gv bu za zf zd zc zb bv).1=0 then
  if(G5 ((Gv bu za zf zd zc zb bv).2) bv).2=0 then
   (fun(bw:UT)=>
    if(Hf d4 (bu 0)).2=0 then
     (fun(zg:UT×LM×Int)=>
      if zg.2.2=0 then
       (zg.2.1,0,(Hq bu ((Gv bu za zf zd zc zb bv).2) zf zd zc (zb++[(Gq (GX (Gq (Gq (fun _=>0) 0 2) 2 zg.1.1) 3 2 d4) 5 m3)]) zg.1.1 zg.1.2.1 zg.1.2.2.1 zg.1.2.2.2.1 zg.1.2.2.2.2.1 zg.1.2.2.2.2.2.1 zg.1.2.2.2.2.2.2.1 zg.1.2.2.2.2.2.2.2.1 zg.1.2.2.2.2.2.2.2.2.1 zg.1.2.2.2.2.2.2.2.2.2.1 zg.1.2.2.2.2.2.2.2.2.2.2.1 zg.1.2.2.2.2.2.2.2.2.2.2.2).1,(Hq bu ((Gv bu za zf zd zc zb bv).2) zf zd zc (zb++[(Gq (GX (Gq (Gq (fun _=>0) 0 2) 2 zg.1.1) 3 2 d4) 5 m3)]) zg.1.1 zg.1.2.1 zg.1.2.2.1 zg.1.2.2.2.1 zg.1.2.2.2.2.1 zg.1.2.2.2.2.2.1 zg.1.2.2.2.2.2.2.1 zg.1.2.2.2.2.2.2.2.1 zg.1.2.2.2.2.2.2.2.2.1 zg.1.2.2.2.2.2.2.2.2.2.1 zg.1.2.2.2.2.2.2.2.2.2.2.1 zg.1.2.2.2.2.2.2.2.2.2.2.2).2.1,(Hq bu ((Gv bu za zf zd zc zb bv).2) zf zd zc (zb++[(Gq (GX (Gq (Gq (fun _=>0) 0 2) 2 zg.1.1) 3 2 d4) 5 m3)]) zg.1.1 zg.1.2.1 zg.1.2.2.1 zg.1.2.2.2.1 zg.1.2.2.2.2.1 zg.1.2.2.2.2.2.1 zg.1.2.2.2.2.2.2.1 zg.1.2.2.2.2.2.2.2.1 zg.1.2.2.2.2.2.2.2.2.1 zg.1.2.2.2.2.2.2.2.2.2.1 zg.1.2.2.2.2.2.2.2.2.2.2.1 zg.1.2.2.2.2.2.2.2.2.2.2.2).2.2)
      else
       ([],zg.2.2,zc,zb,(Gv bu za zf zd zc zb bv).2)) ((Sz ((bw).1) ((bw).2.1) ((bw).2.2.1) ((bw).2.2.2.1) ((bw).2.2.2.2.1) ((bw).2.2.2.2.2.1) ((bw).2.2.2.2.2.2.1) ((bw).2.2.2.2.2.2.2.1) ((bw).2.2.2.2.2.2.2.2.1) ((bw).2.2.2.2.2.2.2.2.2.1) ((bw).2.2.2.2.2.2.2.2.2.2.1) ((bw).2.2.2.2.2.2.2.2.2.2.2) ((Hf d4 (bu 0)).1) d4 m3))
    else
     ([],1,zc,zb,(Gv bu za zf zd zc zb bv).2)) (H5 HT zc ((G5 ((Gv bu za zf zd zc zb bv).2) bv).1) (0,0,0,0,false,0,(fun _=>0),0,[],[],[],[]))
  else
   ([],(G5 ((Gv bu za zf zd zc zb bv).2) bv).2,zc,zb,(Gv bu za zf zd zc zb bv).2)
 else
  ([],(Gv bu za zf zd zc zb bv).1,zc,zb,(Gv bu za zf zd zc zb bv).2)
def RX (bu za:NI) (zf zd:Int) (zc:UM) (zb:LM) (bv:Int) (d4:NI) (m3:Int):Prop:=
 (I7 bu za zf zd zc zb bv)/\(
 if(Gv bu za zf zd zc zb bv).1=0 then
  (Ly ((Gv bu za zf zd zc zb bv).2) bv)/\(
  if(G5 ((Gv bu za zf zd zc zb bv).2) bv).2=0 then
   (fun(bw:UT)=>
    (JZ d4 (bu 0))/\(
    if(Hf d4 (bu 0)).2=0 then
     (Pn ((bw).1) ((bw).2.1) ((bw).2.2.1) ((bw).2.2.2.1) ((bw).2.2.2.2.1) ((bw).2.2.2.2.2.1) ((bw).2.2.2.2.2.2.1) ((bw).2.2.2.2.2.2.2.1) ((bw).2.2.2.2.2.2.2.2.1) ((bw).2.2.2.2.2.2.2.2.2.1) ((bw).2.2.2.2.2.2.2.2.2.2.1) ((bw).2.2.2.2.2.2.2.2.2.2.2) ((Hf d4 (bu 0)).1) d4 m3)/\(
     (fun(zg:UT×LM×Int)=>
      if zg.2.2=0 then
       ((zb.length+1)*56<=140737488355328)/\(
       (IZ bu ((Gv bu za zf zd zc zb bv).2) zf zd zc (zb++[(Gq (GX (Gq (Gq (fun _=>0) 0 2) 2 zg.1.1) 3 2 d4) 5 m3)]) zg.1.1 zg.1.2.1 zg.1.2.2.1 zg.1.2.2.2.1 zg.1.2.2.2.2.1 zg.1.2.2.2.2.2.1 zg.1.2.2.2.2.2.2.1 zg.1.2.2.2.2.2.2.2.1 zg.1.2.2.2.2.2.2.2.2.1 zg.1.2.2.2.2.2.2.2.2.2.1 zg.1.2.2.2.2.2.2.2.2.2.2.1 zg.1.2.2.2.2.2.2.2.2.2.2.2)/\(
       True))
      else
       True) ((Sz ((bw).1) ((bw).2.1) ((bw).2.2.1) ((bw).2.2.2.1) ((bw).2.2.2.2.1) ((bw).2.2.2.2.2.1) ((bw).2.2.2.2.2.2.1) ((bw).2.2.2.2.2.2.2.1) ((bw).2.2.2.2.2.2.2.2.1) ((bw).2.2.2.2.2.2.2.2.2.1) ((bw).2.2.2.2.2.2.2.2.2.2.1) ((bw).2.2.2.2.2.2.2.2.2.2.2) ((Hf d4 (bu 0)).1) d4 m3)))
    else
     True)) (H5 HT zc ((G5 ((Gv bu za zf zd zc zb bv).2) bv).1) (0,0,0,0,false,0,(fun _=>0),0,[],[],[],[]))
  else
   True)
 else
  True)
theorem YF {bu za zf zd zc zb bv d4 m3} (hP:RX bu za zf zd zc zb bv d4 m3):Xm bu za zf zd zc zb bv d4 m3 (Ih bu za zf zd zc zb bv d4 m3):=OKW hP
def Tf (bu za:NI) (zf zd:Int) (zc:UM) (zb:LM) (bv:Int) (r:LM×Int×UM×LM×NI):Prop:=
 (I7 bu za zf zd zc zb bv)/\(
 if(Gv bu za zf zd zc zb bv).1=0 then
  (Ly ((Gv bu za zf zd zc zb bv).2) bv)/\(
  if(G5 ((Gv bu za zf zd zc zb bv).2) bv).2=0 then
   ∃ bw:UT,bw=H5 HT zc ((G5 ((Gv bu za zf zd zc zb bv).2) bv).1) (0,0,0,0,false,0,(fun _=>0),0,[],[],[],[])/\(
   (KE ((bw).1) ((bw).2.1) ((bw).2.2.1) ((bw).2.2.2.1) ((bw).2.2.2.2.1) ((bw).2.2.2.2.2.1) ((bw).2.2.2.2.2.2.1) ((bw).2.2.2.2.2.2.2.1) ((bw).2.2.2.2.2.2.2.2.1) ((bw).2.2.2.2.2.2.2.2.2.1) ((bw).2.2.2.2.2.2.2.2.2.2.1) ((bw).2.2.2.2.2.2.2.2.2.2.2))/\(
   ∃ zh:UT×LM×Int,zh=(Mn ((bw).1) ((bw).2.1) ((bw).2.2.1) ((bw).2.2.2.1) ((bw).2.2.2.2.1) ((bw).2.2.2.2.2.1) ((bw).2.2.2.2.2.2.1) ((bw).2.2.2.2.2.2.2.1) ((bw).2.2.2.2.2.2.2.2.1) ((bw).2.2.2.2.2.2.2.2.2.1) ((bw).2.2.2.2.2.2.2.2.2.2.1) ((bw).2.2.2.2.2.2.2.2.2.2.2))/\(
   if zh.2.2=0 then
    (IZ bu ((Gv bu za zf zd zc zb bv).2) zf zd zc zb zh.1.1 zh.1.2.1 zh.1.2.2.1 zh.1.2.2.2.1 zh.1.2.2.2.2.1 zh.1.2.2.2.2.2.1 zh.1.2.2.2.2.2.2.1 zh.1.2.2.2.2.2.2.2.1 zh.1.2.2.2.2.2.2.2.2.1 zh.1.2.2.2.2.2.2.2.2.2.1 zh.1.2.2.2.2.2.2.2.2.2.2.1 zh.1.2.2.2.2.2.2.2.2.2.2.2)/\(
    r=((zh.2.1,0,(Hq bu ((Gv bu za zf zd zc zb bv).2) zf zd zc zb zh.1.1 zh.1.2.1 zh.1.2.2.1 zh.1.2.2.2.1 zh.1.2.2.2.2.1 zh.1.2.2.2.2.2.1 zh.1.2.2.2.2.2.2.1 zh.1.2.2.2.2.2.2.2.1 zh.1.2.2.2.2.2.2.2.2.1 zh.1.2.2.2.2.2.2.2.2.2.1 zh.1.2.2.2.2.2.2.2.2.2.2.1 zh.1.2.2.2.2.2.2.2.2.2.2.2).1,(Hq bu ((Gv bu za zf zd zc zb bv).2) zf zd zc zb zh.1.1 zh.1.2.1 zh.1.2.2.1 zh.1.2.2.2.1 zh.1.2.2.2.2.1 zh.1.2.2.2.2.2.1 zh.1.2.2.2.2.2.2.1 zh.1.2.2.2.2.2.2.2.1 zh.1.2.2.2.2.2.2.2.2.1 zh.1.2.2.2.2.2.2.2.2.2.1 zh.1.2.2.2.2.2.2.2.2.2.2.1 zh.1.2.2.2.2.2.2.2.2.2.2.2).2.1,(Hq bu ((Gv bu za zf zd zc zb bv).2) zf zd zc zb zh.1.1 zh.1.2.1 zh.1.2.2.1 zh.1.2.2.2.1 zh.1.2.2.2.2.1 zh.1.2.2.2.2.2.1 zh.1.2.2.2.2.2.2.1 zh.1.2.2.2.2.2.2.2.1 zh.1.2.2.2.2.2.2.2.2.1 zh.1.2.2.2.2.2.2.2.2.2.1 zh.1.2.2.2.2.2.2.2.2.2.2.1 zh.1.2.2.2.2.2.2.2.2.2.2.2).2.2)))
   else
    r=(([],zh.2.2,zc,zb,(Gv bu za zf zd zc zb bv).2)))))
  else
   r=(([],(G5 ((Gv bu za zf zd zc zb bv).2) bv).2,zc,zb,(Gv bu za zf zd zc zb bv).2)))
 else
  r=(([],(Gv bu za zf zd zc zb bv).1,zc,zb,(Gv bu za zf zd zc zb bv).2)))
def IA (bu za:NI) (zf zd:Int) (zc:UM) (zb:LM) (bv:Int):LM×Int×UM×LM×NI:=
 if(Gv bu za zf zd zc zb bv).1=0 then
  if(G5 ((Gv bu za zf zd zc zb bv).2) bv).2=0 then
   (fun(bw:UT)=>
    (fun(zh:UT×LM×Int)=>
     if zh.2.2=0 then
      (zh.2.1,0,(Hq bu ((Gv bu za zf zd zc zb bv).2) zf zd zc zb zh.1.1 zh.1.2.1 zh.1.2.2.1 zh.1.2.2.2.1 zh.1.2.2.2.2.1 zh.1.2.2.2.2.2.1 zh.1.2.2.2.2.2.2.1 zh.1.2.2.2.2.2.2.2.1 zh.1.2.2.2.2.2.2.2.2.1 zh.1.2.2.2.2.2.2.2.2.2.1 zh.1.2.2.2.2.2.2.2.2.2.2.1 zh.1.2.2.2.2.2.2.2.2.2.2.2).1,(Hq bu ((Gv bu za zf zd zc zb bv).2) zf zd zc zb zh.1.1 zh.1.2.1 zh.1.2.2.1 zh.1.2.2.2.1 zh.1.2.2.2.2.1 zh.1.2.2.2.2.2.1 zh.1.2.2.2.2.2.2.1 zh.1.2.2.2.2.2.2.2.1 zh.1.2.2.2.2.2.2.2.2.1 zh.1.2.2.2.2.2.2.2.2.2.1 zh.1.2.2.2.2.2.2.2.2.2.2.1 zh.1.2.2.2.2.2.2.2.2.2.2.2).2.1,(Hq bu ((Gv bu za zf zd zc zb bv).2) zf zd zc zb zh.1.1 zh.1.2.1 zh.1.2.2.1 zh.1.2.2.2.1 zh.1.2.2.2.2.1 zh.1.2.2.2.2.2.1 zh.1.2.2.2.2.2.2.1 zh.1.2.2.2.2.2.2.2.1 zh.1.2.2.2.2.2.2.2.2.1 zh.1.2.2.2.2.2.2.2.2.2.1 zh.1.2.2.2.2.2.2.2.2.2.2.1 zh.1.2.2.2.2.2.2.2.2.2.2.2).2.2)
     else
      ([],zh.2.2,zc,zb,(Gv bu za zf zd zc zb bv).2)) ((Mn ((bw).1) ((bw).2.1) ((bw).2.2.1) ((bw).2.2.2.1) ((bw).2.2.2.2.1) ((bw).2.2.2.2.2.1) ((bw).2.2.2.2.2.2.1) ((bw).2.2.2.2.2.2.2.1) ((bw).2.2.2.2.2.2.2.2.1) ((bw).2.2.2.2.2.2.2.2.2.1) ((bw).2.2.2.2.2.2.2.2.2.2.1) ((bw).2.2.2.2.2.2.2.2.2.2.2)))) (H5 HT zc ((G5 ((Gv bu za zf zd zc zb bv).2) bv).1) (0,0,0,0,false,0,(fun _=>0),0,[],[],[],[]))
  else
   ([],(G5 ((Gv bu za zf zd zc zb bv).2) bv).2,zc,zb,(Gv bu za zf zd zc zb bv).2)
 else
  ([],(Gv bu za zf zd zc zb bv).1,zc,zb,(Gv bu za zf zd zc zb bv).2)
def N4 (bu za:NI) (zf zd:Int) (zc:UM) (zb:LM) (bv:Int):Prop:=
 (I7 bu za zf zd zc zb bv)/\(
 if(Gv bu za zf zd zc zb bv).1=0 then
  (Ly ((Gv bu za zf zd zc zb bv).2) bv)/\(
  if(G5 ((Gv bu za zf zd zc zb bv).2) bv).2=0 then
   (fun(bw:UT)=>
    (KE ((bw).1) ((bw).2.1) ((bw).2.2.1) ((bw).2.2.2.1) ((bw).2.2.2.2.1) ((bw).2.2.2.2.2.1) ((bw).2.2.2.2.2.2.1) ((bw).2.2.2.2.2.2.2.1) ((bw).2.2.2.2.2.2.2.2.1) ((bw).2.2.2.2.2.2.2.2.2.1) ((bw).2.2.2.2.2.2.2.2.2.2.1) ((bw).2.2.2.2.2.2.2.2.2.2.2))/\(
    (fun(zh:UT×LM×Int)=>
     if zh.2.2=0 then
      (IZ bu ((Gv bu za zf zd zc zb bv).2) zf zd zc zb zh.1.1 zh.1.2.1 zh.1.2.2.1 zh.1.2.2.2.1 zh.1.2.2.2.2.1 zh.1.2.2.2.2.2.1 zh.1.2.2.2.2.2.2.1 zh.1.2.2.2.2.2.2.2.1 zh.1.2.2.2.2.2.2.2.2.1 zh.1.2.2.2.2.2.2.2.2.2.1 zh.1.2.2.2.2.2.2.2.2.2.2.1 zh.1.2.2.2.2.2.2.2.2.2.2.2)/\(
      True)
     else
      True) ((Mn ((bw).1) ((bw).2.1) ((bw).2.2.1) ((bw).2.2.2.1) ((bw).2.2.2.2.1) ((bw).2.2.2.2.2.1) ((bw).2.2.2.2.2.2.1) ((bw).2.2.2.2.2.2.2.1) ((bw).2.2.2.2.2.2.2.2.1) ((bw).2.2.2.2.2.2.2.2.2.1) ((bw).2.2.2.2.2.2.2.2.2.2.1) ((bw).2.2.2.2.2.2.2.2.2.2.2))))) (H5 HT zc ((G5 ((Gv bu za zf zd zc zb bv).2) bv).1) (0,0,0,0,false,0,(fun _=>0),0,[],[],[],[]))
  else
   True)
 else
  True)
theorem U9 {bu za zf zd zc zb bv} (hP:N4 bu za zf zd zc zb bv):Tf bu za zf zd zc zb bv (IA bu za zf zd zc zb bv):=OKW hP
def Vb (bu za:NI) (zf zd:Int) (zc:UM) (zb:LM) (bZ bR:Int) (eh:(List Int)) (r:LM×Int×UM×LM×NI):Prop:=
 ∃ da:UT,da=H5 HT zc bZ (0,0,0,0,false,0,(fun _=>0),0,[],[],[],[])/\(
 (L6 eh ((da).2.1))/\(
 if((IC eh ((da).2.1)))=true then
  (LO ((da).1) ((da).2.1) ((da).2.2.1) ((da).2.2.2.1) ((da).2.2.2.2.1) ((da).2.2.2.2.2.1) ((da).2.2.2.2.2.2.1) ((da).2.2.2.2.2.2.2.1) ((da).2.2.2.2.2.2.2.2.1) ((da).2.2.2.2.2.2.2.2.2.1) ((da).2.2.2.2.2.2.2.2.2.2.1) ((da).2.2.2.2.2.2.2.2.2.2.2) bR)/\(
  ∃ bT:UT×LM×Int,bT=(NV ((da).1) ((da).2.1) ((da).2.2.1) ((da).2.2.2.1) ((da).2.2.2.2.1) ((da).2.2.2.2.2.1) ((da).2.2.2.2.2.2.1) ((da).2.2.2.2.2.2.2.1) ((da).2.2.2.2.2.2.2.2.1) ((da).2.2.2.2.2.2.2.2.2.1) ((da).2.2.2.2.2.2.2.2.2.2.1) ((da).2.2.2.2.2.2.2.2.2.2.2) bR)/\(
  if bT.2.2=0 then
   (IZ bu za zf zd zc zb bT.1.1 bT.1.2.1 bT.1.2.2.1 bT.1.2.2.2.1 bT.1.2.2.2.2.1 bT.1.2.2.2.2.2.1 bT.1.2.2.2.2.2.2.1 bT.1.2.2.2.2.2.2.2.1 bT.1.2.2.2.2.2.2.2.2.1 bT.1.2.2.2.2.2.2.2.2.2.1 bT.1.2.2.2.2.2.2.2.2.2.2.1 bT.1.2.2.2.2.2.2.2.2.2.2.2)/\(
   r=((bT.2.1,0,(Hq bu za zf zd zc zb bT.1.1 bT.1.2.1 bT.1.2.2.1 bT.1.2.2.2.1 bT.1.2.2.2.2.1 bT.1.2.2.2.2.2.1 bT.1.2.2.2.2.2.2.1 bT.1.2.2.2.2.2.2.2.1 bT.1.2.2.2.2.2.2.2.2.1 bT.1.2.2.2.2.2.2.2.2.2.1 bT.1.2.2.2.2.2.2.2.2.2.2.1 bT.1.2.2.2.2.2.2.2.2.2.2.2).1,(Hq bu za zf zd zc zb bT.1.1 bT.1.2.1 bT.1.2.2.1 bT.1.2.2.2.1 bT.1.2.2.2.2.1 bT.1.2.2.2.2.2.1 bT.1.2.2.2.2.2.2.1 bT.1.2.2.2.2.2.2.2.1 bT.1.2.2.2.2.2.2.2.2.1 bT.1.2.2.2.2.2.2.2.2.2.1 bT.1.2.2.2.2.2.2.2.2.2.2.1 bT.1.2.2.2.2.2.2.2.2.2.2.2).2.1,(Hq bu za zf zd zc zb bT.1.1 bT.1.2.1 bT.1.2.2.1 bT.1.2.2.2.1 bT.1.2.2.2.2.1 bT.1.2.2.2.2.2.1 bT.1.2.2.2.2.2.2.1 bT.1.2.2.2.2.2.2.2.1 bT.1.2.2.2.2.2.2.2.2.1 bT.1.2.2.2.2.2.2.2.2.2.1 bT.1.2.2.2.2.2.2.2.2.2.2.1 bT.1.2.2.2.2.2.2.2.2.2.2.2).2.2)))
  else
   r=(([],bT.2.2,zc,zb,za))))
 else
  r=(([],11,zc,zb,za))))
def Hg (bu za:NI) (zf zd:Int) (zc:UM) (zb:LM) (bZ bR:Int) (eh:(List Int)):LM×Int×UM×LM×NI:=
 (fun(da:UT)=>
  if((IC eh ((da).2.1)))=true then
   (fun(bT:UT×LM×Int)=>
    if bT.2.2=0 then
     (bT.2.1,0,(Hq bu za zf zd zc zb bT.1.1 bT.1.2.1 bT.1.2.2.1 bT.1.2.2.2.1 bT.1.2.2.2.2.1 bT.1.2.2.2.2.2.1 bT.1.2.2.2.2.2.2.1 bT.1.2.2.2.2.2.2.2.1 bT.1.2.2.2.2.2.2.2.2.1 bT.1.2.2.2.2.2.2.2.2.2.1 bT.1.2.2.2.2.2.2.2.2.2.2.1 bT.1.2.2.2.2.2.2.2.2.2.2.2).1,(Hq bu za zf zd zc zb bT.1.1 bT.1.2.1 bT.1.2.2.1 bT.1.2.2.2.1 bT.1.2.2.2.2.1 bT.1.2.2.2.2.2.1 bT.1.2.2.2.2.2.2.1 bT.1.2.2.2.2.2.2.2.1 bT.1.2.2.2.2.2.2.2.2.1 bT.1.2.2.2.2.2.2.2.2.2.1 bT.1.2.2.2.2.2.2.2.2.2.2.1 bT.1.2.2.2.2.2.2.2.2.2.2.2).2.1,(Hq bu za zf zd zc zb bT.1.1 bT.1.2.1 bT.1.2.2.1 bT.1.2.2.2.1 bT.1.2.2.2.2.1 bT.1.2.2.2.2.2.1 bT.1.2.2.2.2.2.2.1 bT.1.2.2.2.2.2.2.2.1 bT.1.2.2.2.2.2.2.2.2.1 bT.1.2.2.2.2.2.2.2.2.2.1 bT.1.2.2.2.2.2.2.2.2.2.2.1 bT.1.2.2.2.2.2.2.2.2.2.2.2).2.2)
    else
     ([],bT.2.2,zc,zb,za)) ((NV ((da).1) ((da).2.1) ((da).2.2.1) ((da).2.2.2.1) ((da).2.2.2.2.1) ((da).2.2.2.2.2.1) ((da).2.2.2.2.2.2.1) ((da).2.2.2.2.2.2.2.1) ((da).2.2.2.2.2.2.2.2.1) ((da).2.2.2.2.2.2.2.2.2.1) ((da).2.2.2.2.2.2.2.2.2.2.1) ((da).2.2.2.2.2.2.2.2.2.2.2) bR))
  else
   ([],11,zc,zb,za)) (H5 HT zc bZ (0,0,0,0,false,0,(fun _=>0),0,[],[],[],[]))
def JM (bu za:NI) (zf zd:Int) (zc:UM) (zb:LM) (bZ bR:Int) (eh:(List Int)):Prop:=
 (fun(da:UT)=>
  (L6 eh ((da).2.1))/\(
  if((IC eh ((da).2.1)))=true then
   (LO ((da).1) ((da).2.1) ((da).2.2.1) ((da).2.2.2.1) ((da).2.2.2.2.1) ((da).2.2.2.2.2.1) ((da).2.2.2.2.2.2.1) ((da).2.2.2.2.2.2.2.1) ((da).2.2.2.2.2.2.2.2.1) ((da).2.2.2.2.2.2.2.2.2.1) ((da).2.2.2.2.2.2.2.2.2.2.1) ((da).2.2.2.2.2.2.2.2.2.2.2) bR)/\(
   (fun(bT:UT×LM×Int)=>
    if bT.2.2=0 then
     (IZ bu za zf zd zc zb bT.1.1 bT.1.2.1 bT.1.2.2.1 bT.1.2.2.2.1 bT.1.2.2.2.2.1 bT.1.2.2.2.2.2.1 bT.1.2.2.2.2.2.2.1 bT.1.2.2.2.2.2.2.2.1 bT.1.2.2.2.2.2.2.2.2.1 bT.1.2.2.2.2.2.2.2.2.2.1 bT.1.2.2.2.2.2.2.2.2.2.2.1 bT.1.2.2.2.2.2.2.2.2.2.2.2)/\(
     True)
    else
     True) ((NV ((da).1) ((da).2.1) ((da).2.2.1) ((da).2.2.2.1) ((da).2.2.2.2.1) ((da).2.2.2.2.2.1) ((da).2.2.2.2.2.2.1) ((da).2.2.2.2.2.2.2.1) ((da).2.2.2.2.2.2.2.2.1) ((da).2.2.2.2.2.2.2.2.2.1) ((da).2.2.2.2.2.2.2.2.2.2.1) ((da).2.2.2.2.2.2.2.2.2.2.2) bR)))
  else
   True)) (H5 HT zc bZ (0,0,0,0,false,0,(fun _=>0),0,[],[],[],[]))
theorem N7 {bu za zf zd zc zb bZ bR eh} (hP:JM bu za zf zd zc zb bZ bR eh):Vb bu za zf zd zc zb bZ bR eh (Hg bu za zf zd zc zb bZ bR eh):=OKW hP
def Ti (bu za:NI) (zf zd:Int) (zc:UM) (zb:LM) (bv:Int) (r:LM×Int×UM×LM×NI):Prop:=
 (I7 bu za zf zd zc zb bv)/\(
 if(Gv bu za zf zd zc zb bv).1=0 then
  (Ly ((Gv bu za zf zd zc zb bv).2) bv)/\(
  if(G5 ((Gv bu za zf zd zc zb bv).2) bv).2=0 then
   ∃ bw:UT,bw=H5 HT zc ((G5 ((Gv bu za zf zd zc zb bv).2) bv).1) (0,0,0,0,false,0,(fun _=>0),0,[],[],[],[])/\(
   (JM bu ((Gv bu za zf zd zc zb bv).2) zf zd zc zb ((bw).1) 1 ([1]))/\(
   r=(((Hg bu ((Gv bu za zf zd zc zb bv).2) zf zd zc zb ((bw).1) 1 ([1])).1,(Hg bu ((Gv bu za zf zd zc zb bv).2) zf zd zc zb ((bw).1) 1 ([1])).2.1,(Hg bu ((Gv bu za zf zd zc zb bv).2) zf zd zc zb ((bw).1) 1 ([1])).2.2.1,(Hg bu ((Gv bu za zf zd zc zb bv).2) zf zd zc zb ((bw).1) 1 ([1])).2.2.2.1,(Hg bu ((Gv bu za zf zd zc zb bv).2) zf zd zc zb ((bw).1) 1 ([1])).2.2.2.2))))
  else
   r=(([],(G5 ((Gv bu za zf zd zc zb bv).2) bv).2,zc,zb,(Gv bu za zf zd zc zb bv).2)))
 else
  r=(([],(Gv bu za zf zd zc zb bv).1,zc,zb,(Gv bu za zf zd zc zb bv).2)))
def IP (bu za:NI) (zf zd:Int) (zc:UM) (zb:LM) (bv:Int):LM×Int×UM×LM×NI:=
 if(Gv bu za zf zd zc zb bv).1=0 then
  if(G5 ((Gv bu za zf zd zc zb bv).2) bv).2=0 then
   (fun(bw:UT)=>
    ((Hg bu ((Gv bu za zf zd zc zb bv).2) zf zd zc zb ((bw).1) 1 ([1])).1,(Hg bu ((Gv bu za zf zd zc zb bv).2) zf zd zc zb ((bw).1) 1 ([1])).2.1,(Hg bu ((Gv bu za zf zd zc zb bv).2) zf zd zc zb ((bw).1) 1 ([1])).2.2.1,(Hg bu ((Gv bu za zf zd zc zb bv).2) zf zd zc zb ((bw).1) 1 ([1])).2.2.2.1,(Hg bu ((Gv bu za zf zd zc zb bv).2) zf zd zc zb ((bw).1) 1 ([1])).2.2.2.2)) (H5 HT zc ((G5 ((Gv bu za zf zd zc zb bv).2) bv).1) (0,0,0,0,false,0,(fun _=>0),0,[],[],[],[]))
  else
   ([],(G5 ((Gv bu za zf zd zc zb bv).2) bv).2,zc,zb,(Gv bu za zf zd zc zb bv).2)
 else
  ([],(Gv bu za zf zd zc zb bv).1,zc,zb,(Gv bu za zf zd zc zb bv).2)
def Qq (bu za:NI) (zf zd:Int) (zc:UM) (zb:LM) (bv:Int):Prop:=
 (I7 bu za zf zd zc zb bv)/\(
 if(Gv bu za zf zd zc zb bv).1=0 then
  (Ly ((Gv bu za zf zd zc zb bv).2) bv)/\(
  if(G5 ((Gv bu za zf zd zc zb bv).2) bv).2=0 then
   (fun(bw:UT)=>
    (JM bu ((Gv bu za zf zd zc zb bv).2) zf zd zc zb ((bw).1) 1 ([1]))/\(
    True)) (H5 HT zc ((G5 ((Gv bu za zf zd zc zb bv).2) bv).1) (0,0,0,0,false,0,(fun _=>0),0,[],[],[],[]))
  else
   True)
 else
  True)
theorem Z2 {bu za zf zd zc zb bv} (hP:Qq bu za zf zd zc zb bv):Ti bu za zf zd zc zb bv (IP bu za zf zd zc zb bv):=OKW hP
def K5 (bu za:NI) (zf zd:Int) (zc:UM) (zb:LM) (bv:Int):Int×LM×NI:=
 if(Gv bu za zf zd zc zb bv).1=0 then
  (0,(zb++[(Gq (Gq (fun _=>0) 0 8) 1 bv)]),(PZ ((Gv bu za zf zd zc zb bv).2) bv zf).2)
 else
  ((Gv bu za zf zd zc zb bv).1,zb,(Gv bu za zf zd zc zb bv).2)
def MX (bu za:NI) (zf zd:Int) (zc:UM) (zb:LM) (bv:Int) (k:(Int×LM×NI)->Prop:=fun _=>True):Prop:=
 (I7 bu za zf zd zc zb bv)/\(
 if(Gv bu za zf zd zc zb bv).1=0 then
  (Na ((Gv bu za zf zd zc zb bv).2) bv zf)/\(
  ((zb.length+1)*56<=140737488355328)/\(
  k ((0,(zb++[(Gq (Gq (fun _=>0) 0 8) 1 bv)]),(PZ ((Gv bu za zf zd zc zb bv).2) bv zf).2))))
 else
  k (((Gv bu za zf zd zc zb bv).1,zb,(Gv bu za zf zd zc zb bv).2)))
theorem Acs {bu za zf zd zc zb bv} (hP:MX bu za zf zd zc zb bv):MX bu za zf zd zc zb bv (Eq (K5 bu za zf zd zc zb bv)):=Pc hP
def QZ (bu za:NI) (zf zd:Int) (zc:UM) (zb:LM) (m1:NI) (r:LM×UM×LM×NI):Prop:=
 ∃ da:UT,da=H5 HT zc (m1 9) (0,0,0,0,false,0,(fun _=>0),0,[],[],[],[])/\(
 if(((nz (bu 1)))||((!(decide ((da).2.1=1)))&&(!(decide ((da).2.1=2)))))=true then
  r=(([],zc,zb,za))
 else
  (JM bu za zf zd zc zb (m1 3) 3 ([1]))/\(
  r=(((Hg bu za zf zd zc zb (m1 3) 3 ([1])).1,(Hg bu za zf zd zc zb (m1 3) 3 ([1])).2.2.1,(Hg bu za zf zd zc zb (m1 3) 3 ([1])).2.2.2.1,(Hg bu za zf zd zc zb (m1 3) 3 ([1])).2.2.2.2))))
def IU (bu za:NI) (zf zd:Int) (zc:UM) (zb:LM) (m1:NI):LM×UM×LM×NI:=
 (fun(da:UT)=>
  if(((nz (bu 1)))||((!(decide ((da).2.1=1)))&&(!(decide ((da).2.1=2)))))=true then
   ([],zc,zb,za)
  else
   ((Hg bu za zf zd zc zb (m1 3) 3 ([1])).1,(Hg bu za zf zd zc zb (m1 3) 3 ([1])).2.2.1,(Hg bu za zf zd zc zb (m1 3) 3 ([1])).2.2.2.1,(Hg bu za zf zd zc zb (m1 3) 3 ([1])).2.2.2.2)) (H5 HT zc (m1 9) (0,0,0,0,false,0,(fun _=>0),0,[],[],[],[]))
def MU (bu za:NI) (zf zd:Int) (zc:UM) (zb:LM) (m1:NI):Prop:=
 (fun(da:UT)=>
  if(((nz (bu 1)))||((!(decide ((da).2.1=1)))&&(!(decide ((da).2.1=2)))))=true then
   True
  else
   (JM bu za zf zd zc zb (m1 3) 3 ([1]))/\(
   True)) (H5 HT zc (m1 9) (0,0,0,0,false,0,(fun _=>0),0,[],[],[],[]))
theorem YB {bu za zf zd zc zb m1} (hP:MU bu za zf zd zc zb m1):QZ bu za zf zd zc zb m1 (IU bu za zf zd zc zb m1):=OKW hP
end Go.E
namespace Go.E
open Go
def LX (bu za:NI) (zc zd:Int) (zf:UM) (zb bH:LM) (kV:Int) (o:(LM×Int) ⊕ (LM)):Prop:=
 if kV<((Hb bu za zc zd zf zb).length:Int) then
  (0<=kV/\kV<(Hb bu za zc zd zf zb).length)/\(
  ∃ pN:UT,pN=H5 HT zf ((Hb bu za zc zd zf zb)[kV.toNat]!) (0,0,0,0,false,0,(fun _=>0),0,[],[],[],[])/\(
  if((pN).2.2.2.2.1)=true then
   ((bH.length+1)*16<=140737488355328)/\(
   (GN (kV+1))/\(
   o=(.inl ((bH++[(Gq (Gq (fun _=>0) 0 ((Hb bu za zc zd zf zb)[kV.toNat]!)) 1 ((pN).2.2.2.1))]),kV+1))))
  else
   (GN (kV+1))/\(
   o=(.inl (bH,kV+1)))))
 else
  o=(.inr bH)
def Tb (bH r:LM):Prop:=
 r=(bH)
def Xk (bu za:NI) (zc zd:Int) (zf:UM) (zb r:LM):Prop:=
 (Rh bu za zc zd zf zb)/\(
 ∃ x:LM,Wh (fun(s:LM×Int) (o:(LM×Int) ⊕ (LM))=>LX bu za zc zd zf zb s.1 s.2 o) (([],0):LM×Int) x/\Tb x r)
def LU (bu za:NI) (zc zd:Int) (zf:UM) (zb:LM) (j9:Int) (gV:(List UT)) (o:(Int×(List UT)) ⊕ ((List UT))):Prop:=
 if j9<((Hb bu za zc zd zf zb).length:Int) then
  (0<=j9/\j9<(Hb bu za zc zd zf zb).length)/\(
  ∃ iW:UT,iW=H5 HT zf ((Hb bu za zc zd zf zb)[j9.toNat]!) (0,0,0,0,false,0,(fun _=>0),0,[],[],[],[])/\(
  (IW ((iW).2.2.2.2.2.2.2.2.1))/\(
  (IW ((iW).2.2.2.2.2.2.2.2.2.1))/\(
  (IW ((iW).2.2.2.2.2.2.2.2.2.2.1))/\(
  (PX ((iW).2.2.2.2.2.2.2.2.2.2.2))/\(
  ((gV.length+1)*168<=140737488355328)/\(
  (GN (j9+1))/\(
  o=(.inl (j9+1,(gV++[((iW).1,(iW).2.1,(iW).2.2.1,(iW).2.2.2.1,(iW).2.2.2.2.1,(iW).2.2.2.2.2.1,((iW).2.2.2.2.2.2.1),(iW).2.2.2.2.2.2.2.1,(G3 ((iW).2.2.2.2.2.2.2.2.1)),(G3 ((iW).2.2.2.2.2.2.2.2.2.1)),(G3 ((iW).2.2.2.2.2.2.2.2.2.2.1)),(Od ((iW).2.2.2.2.2.2.2.2.2.2.2)))])))))))))))
 else
  o=(.inr gV)
def S8 (zc zd:Int) (zb:LM) (gV:(List UT)) (r:(Int×Int×(List UT)×LM)):Prop:=
 r=((zc,zd,gV,(VH zb)))
def Xh (bu za:NI) (zc zd:Int) (zf:UM) (zb:LM) (r:(Int×Int×(List UT)×LM)):Prop:=
 (
  (VG zb)/\(
  True))/\(
 (Rh bu za zc zd zf zb)/\(
 ∃ x:(List UT),Wh (fun(s:Int×(List UT)) (o:(Int×(List UT)) ⊕ ((List UT)))=>LU bu za zc zd zf zb s.1 s.2 o) ((0,[]):Int×(List UT)) x/\S8 zc zd zb x r))
end Go.E
namespace Go.E
open Go
abbrev TT:=Int×Int×Int×Int×Bool×Int×NI×Int×List Int×List Int×List Int×LM
abbrev TM:=List (Int×TT)
def T0:TT:=(0,0,0,0,false,0,(fun _=>0),0,[],[],[],[])
def GU (m:TM) (k:Int):TT:=H5 HT m k T0
def Tc (m:TM) (k:Int):LM:=if(GU m k).2.2.2.2.1=true then [Gq (Gq (fun _=>0) 0 k) 1 (GU m k).2.2.2.1] else []
def Mi (c cl:Nat->Int) (ti la:Int) (m:TM) (tr:LM):LM:=(Hu m).flatMap (Tc m)
def Uf (c cl:Nat->Int) (ti la:Int) (m:TM) (tr:LM):Prop:=NC m
theorem Wc {α:Type} (m:List (Int×α)):(Hu m).length=m.length:=by
 unfold Hu
 rw[List.length_mergeSort,List.length_map]
theorem Mo {l:List Int} {k:Nat} (h:k<l.length):l.take (k+1)=l.take k++[l[k]!]:=by
 rw[List.take_add_one,List.getElem?_eq_getElem h,getElem!_pos l k h]
 rfl
theorem YE (m:TM) (l:List Int):(l.flatMap (Tc m)).length<=l.length:=by
 induction l with
 | nil=>exact Nat.le_refl _
 | cons a l ih=>
  rw[List.flatMap_cons,List.length_append,List.length_cons]
  have:(Tc m a).length<=1:=by
   unfold Tc
   by_cases h:(GU m a).2.2.2.2.1=true
   .rw[Ae h];exact Nat.le_refl _
   .rw[Af h];exact Nat.zero_le _
  omega
theorem Aec {c cl:Nat->Int} {ti la:Int} {m:TM} {tr:LM} (hP:Uf c cl ti la m tr):Xk c cl ti la m tr (Mi c cl ti la m tr):=by
 have hl:=hP.2
 have hs:=Wc m
 refine⟨⟨hP,trivial⟩,Mi c cl ti la m tr,?_,rfl⟩
 have hf:∀ k:Nat,k<(Hu m).length->LX c cl ti la m tr (((Hu m).take k).flatMap (Tc m)) (k:Int) (.inl (((Hu m).take (k+1)).flatMap (Tc m),((k+1:Nat):Int))):=by
  intro k hk
  have hle:=YE m ((Hu m).take k)
  have htl:((Hu m).take k).length=k:=by rw[List.length_take];omega
  have e:((k+1:Nat):Int)=(k:Int)+1:=Aa
  unfold LX Hb
  rw[Ae Aa,Int.toNat_natCast]
  refine⟨⟨Aa,Aa⟩,_,rfl,?_⟩
  rw[Mo hk,List.flatMap_append,e]
  have e2:[(Hu m)[k]!].flatMap (Tc m)=Tc m (Hu m)[k]!:=Ad
  rw[e2]
  unfold Tc GU T0
  by_cases h:(H5 HT m (Hu m)[k]! (0,0,0,0,false,0,(fun _=>0),0,[],[],[],[])).2.2.2.2.1=true
  .rw[Ae h,Ae h]
   refine⟨?_,?_,rfl⟩
   .show((((Hu m).take k).flatMap (Tc m)).length+1)*16<=_
    omega
   .unfold GN;omega
  .rw[Af h,Af h,List.append_nil]
   exact⟨by unfold GN;omega,rfl⟩
 have:=Wh.fold (f:=fun(s:LM×Int) o=>LX c cl ti la m tr s.1 s.2 o) (Hu m).length (fun k=>(((Hu m).take k).flatMap (Tc m),(k:Int))) (Mi c cl ti la m tr) hf (by
  show LX c cl ti la m tr _ _ _
  unfold LX Hb
  rw[Af Aa,List.take_length]
  rfl)
 exact this
def TL (m:TM) (k:Int):Prop:=(GU m k).2.2.2.2.2.2.2.2.1.length<=1000000000/\(GU m k).2.2.2.2.2.2.2.2.2.1.length<=1000000000/\(GU m k).2.2.2.2.2.2.2.2.2.2.1.length<=1000000000/\(GU m k).2.2.2.2.2.2.2.2.2.2.2.length<=1000000000
def Qn (c cl:Nat->Int) (ti la:Int) (m:TM) (tr:LM):Int×Int×List TT×LM:=(ti,la,(Hu m).map (GU m),tr)
def Ue (c cl:Nat->Int) (ti la:Int) (m:TM) (tr:LM):Prop:=NC m/\m.length<=1000000000/\tr.length<=1000000000/\∀ k,TL m k
theorem Ad9 {c cl:Nat->Int} {ti la:Int} {m:TM} {tr:LM} (hP:Ue c cl ti la m tr):Xh c cl ti la m tr (Qn c cl ti la m tr):=by
 obtain⟨hk,hm,htr,hT⟩:=hP
 have hs:=Wc m
 refine⟨⟨htr,trivial⟩,⟨hk,trivial⟩,(Hu m).map (GU m),?_,rfl⟩
 have hf:∀ k:Nat,k<(Hu m).length->LU c cl ti la m tr (k:Int) (((Hu m).take k).map (GU m)) (.inl (((k+1:Nat):Int),((Hu m).take (k+1)).map (GU m))):=by
  intro k hk
  have htl:(((Hu m).take k).map (GU m)).length=k:=by rw[List.length_map,List.length_take];omega
  have e:((k+1:Nat):Int)=(k:Int)+1:=Aa
  unfold LU Hb
  rw[Ae Aa,Int.toNat_natCast]
  have h4:=hT (Hu m)[k]!
  refine⟨⟨Aa,Aa⟩,_,rfl,h4.1,h4.2.1,h4.2.2.1,h4.2.2.2,by rw[htl];omega,by unfold GN;omega,?_⟩
  rw[Mo hk,List.map_append,e]
  rfl
 have:=Wh.fold (f:=fun(s:Int×List TT) o=>LU c cl ti la m tr s.1 s.2 o) (Hu m).length (fun k=>((k:Int),((Hu m).take k).map (GU m))) ((Hu m).map (GU m)) hf (by
  show LU c cl ti la m tr _ _ _
  unfold LU Hb
  rw[Af Aa,List.take_length])
 exact this
end Go.E
namespace Go.E
open Go
def Ta (bu za:NI) (zd zf:Int) (zc:UM) (zb:LM) (m1:NI) (r:LM×UM×LM×NI):Prop:=
 if((nz (bu 1)))=true then
  (Uf bu za zd zf zc zb)/\(
  (NE m1 (Mi bu za zd zf zc zb))/\(
  if((K3 m1 (Mi bu za zd zf zc zb)))=true then
   if((Nb m1))=true then
    (JM bu za zd zf zc zb ((Ik m1).1) 4 ([1]))/\(
    r=(((Hg bu za zd zf zc zb ((Ik m1).1) 4 ([1])).1,(Hg bu za zd zf zc zb ((Ik m1).1) 4 ([1])).2.2.1,(Hg bu za zd zf zc zb ((Ik m1).1) 4 ([1])).2.2.2.1,(Hg bu za zd zf zc zb ((Ik m1).1) 4 ([1])).2.2.2.2)))
   else
    ∃ fo:UT,fo=H5 HT zc (m1 9) (0,0,0,0,false,0,(fun _=>0),0,[],[],[],[])/\(
    if((!((fo).2.2.2.2.1))||((!(decide (m1 10=0)))&&(!(decide (m1 10=(fo).2.2.2.1)))))=true then
     r=(([],zc,zb,za))
    else
     if(J0 ((fo).2.2.2.2.2.1) m1).2=0 then
      r=(([(J0 ((fo).2.2.2.2.2.1) m1).1],zc,zb,za))
     else
      r=(([],zc,zb,za)))
  else
   r=(([],zc,zb,za))))
 else
  r=(([],zc,zb,za))
def Jy (bu za:NI) (zd zf:Int) (zc:UM) (zb:LM) (m1:NI):LM×UM×LM×NI:=
 if((nz (bu 1)))=true then
  if((K3 m1 (Mi bu za zd zf zc zb)))=true then
   if((Nb m1))=true then
    ((Hg bu za zd zf zc zb ((Ik m1).1) 4 ([1])).1,(Hg bu za zd zf zc zb ((Ik m1).1) 4 ([1])).2.2.1,(Hg bu za zd zf zc zb ((Ik m1).1) 4 ([1])).2.2.2.1,(Hg bu za zd zf zc zb ((Ik m1).1) 4 ([1])).2.2.2.2)
   else
    (fun(fo:UT)=>
     if((!((fo).2.2.2.2.1))||((!(decide (m1 10=0)))&&(!(decide (m1 10=(fo).2.2.2.1)))))=true then
      ([],zc,zb,za)
     else
      if(J0 ((fo).2.2.2.2.2.1) m1).2=0 then
       ([(J0 ((fo).2.2.2.2.2.1) m1).1],zc,zb,za)
      else
       ([],zc,zb,za)) (H5 HT zc (m1 9) (0,0,0,0,false,0,(fun _=>0),0,[],[],[],[]))
  else
   ([],zc,zb,za)
 else
  ([],zc,zb,za)
def N3 (bu za:NI) (zd zf:Int) (zc:UM) (zb:LM) (m1:NI):Prop:=
 if((nz (bu 1)))=true then
  (Uf bu za zd zf zc zb)/\(
  (NE m1 (Mi bu za zd zf zc zb))/\(
  if((K3 m1 (Mi bu za zd zf zc zb)))=true then
   if((Nb m1))=true then
    (JM bu za zd zf zc zb ((Ik m1).1) 4 ([1]))/\(
    True)
   else
    (fun(fo:UT)=>
     if((!((fo).2.2.2.2.1))||((!(decide (m1 10=0)))&&(!(decide (m1 10=(fo).2.2.2.1)))))=true then
      True
     else
      if(J0 ((fo).2.2.2.2.2.1) m1).2=0 then
       True
      else
       True) (H5 HT zc (m1 9) (0,0,0,0,false,0,(fun _=>0),0,[],[],[],[]))
  else
   True))
 else
  True
theorem ZW {bu za zd zf zc zb m1} (hP:N3 bu za zd zf zc zb m1):Ta bu za zd zf zc zb m1 (Jy bu za zd zf zc zb m1):=OKW hP
def Td (bu za:NI) (zd zf:Int) (zc:UM) (zb:LM) (m1:NI) (r:LM×Int×UM×LM×NI):Prop:=
 if(Js m1)=0 then
  if((!(decide (m1 2=0)))||(decide (bu 0<m1 1)))=true then
   r=(([],1,zc,zb,za))
  else
   if m1 0=11 then
    (N3 bu za zd zf zc zb m1)/\(
    r=(((Jy bu za zd zf zc zb m1).1,0,(Jy bu za zd zf zc zb m1).2.1,(Jy bu za zd zf zc zb m1).2.2.1,(Jy bu za zd zf zc zb m1).2.2.2)))
   else
    ∃ bw:UT,bw=H5 HT zc (m1 3) (0,0,0,0,false,0,(fun _=>0),0,[],[],[],[])/\(
    if((KZ HT zc (m1 3)))=true then
     if m1 0=2 then
      (IL ((bw).1) ((bw).2.1) ((bw).2.2.1) ((bw).2.2.2.1) ((bw).2.2.2.2.1) ((bw).2.2.2.2.2.1) ((bw).2.2.2.2.2.2.1) ((bw).2.2.2.2.2.2.2.1) ((bw).2.2.2.2.2.2.2.2.1) ((bw).2.2.2.2.2.2.2.2.2.1) ((bw).2.2.2.2.2.2.2.2.2.2.1) ((bw).2.2.2.2.2.2.2.2.2.2.2) m1)/\(
      ∃ zg:UT×Int,zg=(I5 ((bw).1) ((bw).2.1) ((bw).2.2.1) ((bw).2.2.2.1) ((bw).2.2.2.2.1) ((bw).2.2.2.2.2.1) ((bw).2.2.2.2.2.2.1) ((bw).2.2.2.2.2.2.2.1) ((bw).2.2.2.2.2.2.2.2.1) ((bw).2.2.2.2.2.2.2.2.2.1) ((bw).2.2.2.2.2.2.2.2.2.2.1) ((bw).2.2.2.2.2.2.2.2.2.2.2) m1)/\(
      if zg.2=0 then
       (IZ bu za zd zf zc zb zg.1.1 zg.1.2.1 zg.1.2.2.1 zg.1.2.2.2.1 zg.1.2.2.2.2.1 zg.1.2.2.2.2.2.1 zg.1.2.2.2.2.2.2.1 zg.1.2.2.2.2.2.2.2.1 zg.1.2.2.2.2.2.2.2.2.1 zg.1.2.2.2.2.2.2.2.2.2.1 zg.1.2.2.2.2.2.2.2.2.2.2.1 zg.1.2.2.2.2.2.2.2.2.2.2.2)/\(
       ((((Hq bu za zd zf zc zb zg.1.1 zg.1.2.1 zg.1.2.2.1 zg.1.2.2.2.1 zg.1.2.2.2.2.1 zg.1.2.2.2.2.2.1 zg.1.2.2.2.2.2.2.1 zg.1.2.2.2.2.2.2.2.1 zg.1.2.2.2.2.2.2.2.2.1 zg.1.2.2.2.2.2.2.2.2.2.1 zg.1.2.2.2.2.2.2.2.2.2.2.1 zg.1.2.2.2.2.2.2.2.2.2.2.2).2.1).length+1)*56<=140737488355328)/\(
       r=(([],0,(Hq bu za zd zf zc zb zg.1.1 zg.1.2.1 zg.1.2.2.1 zg.1.2.2.2.1 zg.1.2.2.2.2.1 zg.1.2.2.2.2.2.1 zg.1.2.2.2.2.2.2.1 zg.1.2.2.2.2.2.2.2.1 zg.1.2.2.2.2.2.2.2.2.1 zg.1.2.2.2.2.2.2.2.2.2.1 zg.1.2.2.2.2.2.2.2.2.2.2.1 zg.1.2.2.2.2.2.2.2.2.2.2.2).1,((Hq bu za zd zf zc zb zg.1.1 zg.1.2.1 zg.1.2.2.1 zg.1.2.2.2.1 zg.1.2.2.2.2.1 zg.1.2.2.2.2.2.1 zg.1.2.2.2.2.2.2.1 zg.1.2.2.2.2.2.2.2.1 zg.1.2.2.2.2.2.2.2.2.1 zg.1.2.2.2.2.2.2.2.2.2.1 zg.1.2.2.2.2.2.2.2.2.2.2.1 zg.1.2.2.2.2.2.2.2.2.2.2.2).2.1++[(Gq (GX (Gq (Gq (fun _=>0) 0 3) 2 zg.1.1) 3 2 ((bw).2.2.2.2.2.2.1)) 5 (m1 7))]),(Hq bu za zd zf zc zb zg.1.1 zg.1.2.1 zg.1.2.2.1 zg.1.2.2.2.1 zg.1.2.2.2.2.1 zg.1.2.2.2.2.2.1 zg.1.2.2.2.2.2.2.1 zg.1.2.2.2.2.2.2.2.1 zg.1.2.2.2.2.2.2.2.2.1 zg.1.2.2.2.2.2.2.2.2.2.1 zg.1.2.2.2.2.2.2.2.2.2.2.1 zg.1.2.2.2.2.2.2.2.2.2.2.2).2.2))))
      else
       r=(([],0,zc,zb,za))))
     else
      if m1 0=3 then
       (IL ((bw).1) ((bw).2.1) ((bw).2.2.1) ((bw).2.2.2.1) ((bw).2.2.2.2.1) ((bw).2.2.2.2.2.1) ((bw).2.2.2.2.2.2.1) ((bw).2.2.2.2.2.2.2.1) ((bw).2.2.2.2.2.2.2.2.1) ((bw).2.2.2.2.2.2.2.2.2.1) ((bw).2.2.2.2.2.2.2.2.2.2.1) ((bw).2.2.2.2.2.2.2.2.2.2.2) m1)/\(
       ∃ zh:UT×Int,zh=(I5 ((bw).1) ((bw).2.1) ((bw).2.2.1) ((bw).2.2.2.1) ((bw).2.2.2.2.1) ((bw).2.2.2.2.2.1) ((bw).2.2.2.2.2.2.1) ((bw).2.2.2.2.2.2.2.1) ((bw).2.2.2.2.2.2.2.2.1) ((bw).2.2.2.2.2.2.2.2.2.1) ((bw).2.2.2.2.2.2.2.2.2.2.1) ((bw).2.2.2.2.2.2.2.2.2.2.2) m1)/\(
       if zh.2=0 then
        (IZ bu za zd zf zc zb zh.1.1 zh.1.2.1 zh.1.2.2.1 zh.1.2.2.2.1 zh.1.2.2.2.2.1 zh.1.2.2.2.2.2.1 zh.1.2.2.2.2.2.2.1 zh.1.2.2.2.2.2.2.2.1 zh.1.2.2.2.2.2.2.2.2.1 zh.1.2.2.2.2.2.2.2.2.2.1 zh.1.2.2.2.2.2.2.2.2.2.2.1 zh.1.2.2.2.2.2.2.2.2.2.2.2)/\(
        ((((Hq bu za zd zf zc zb zh.1.1 zh.1.2.1 zh.1.2.2.1 zh.1.2.2.2.1 zh.1.2.2.2.2.1 zh.1.2.2.2.2.2.1 zh.1.2.2.2.2.2.2.1 zh.1.2.2.2.2.2.2.2.1 zh.1.2.2.2.2.2.2.2.2.1 zh.1.2.2.2.2.2.2.2.2.2.1 zh.1.2.2.2.2.2.2.2.2.2.2.1 zh.1.2.2.2.2.2.2.2.2.2.2.2).2.1).length+1)*56<=140737488355328)/\(
        r=(([],0,(Hq bu za zd zf zc zb zh.1.1 zh.1.2.1 zh.1.2.2.1 zh.1.2.2.2.1 zh.1.2.2.2.2.1 zh.1.2.2.2.2.2.1 zh.1.2.2.2.2.2.2.1 zh.1.2.2.2.2.2.2.2.1 zh.1.2.2.2.2.2.2.2.2.1 zh.1.2.2.2.2.2.2.2.2.2.1 zh.1.2.2.2.2.2.2.2.2.2.2.1 zh.1.2.2.2.2.2.2.2.2.2.2.2).1,((Hq bu za zd zf zc zb zh.1.1 zh.1.2.1 zh.1.2.2.1 zh.1.2.2.2.1 zh.1.2.2.2.2.1 zh.1.2.2.2.2.2.1 zh.1.2.2.2.2.2.2.1 zh.1.2.2.2.2.2.2.2.1 zh.1.2.2.2.2.2.2.2.2.1 zh.1.2.2.2.2.2.2.2.2.2.1 zh.1.2.2.2.2.2.2.2.2.2.2.1 zh.1.2.2.2.2.2.2.2.2.2.2.2).2.1++[(Gq (GX (Gq (Gq (fun _=>0) 0 4) 2 zh.1.1) 3 2 ((bw).2.2.2.2.2.2.1)) 6 (m1 8))]),(Hq bu za zd zf zc zb zh.1.1 zh.1.2.1 zh.1.2.2.1 zh.1.2.2.2.1 zh.1.2.2.2.2.1 zh.1.2.2.2.2.2.1 zh.1.2.2.2.2.2.2.1 zh.1.2.2.2.2.2.2.2.1 zh.1.2.2.2.2.2.2.2.2.1 zh.1.2.2.2.2.2.2.2.2.2.1 zh.1.2.2.2.2.2.2.2.2.2.2.1 zh.1.2.2.2.2.2.2.2.2.2.2.2).2.2))))
       else
        r=(([],0,zc,zb,za))))
      else
       if m1 0=5 then
        (Nj ((bw).1) ((bw).2.1) ((bw).2.2.1) ((bw).2.2.2.1) ((bw).2.2.2.2.1) ((bw).2.2.2.2.2.1) ((bw).2.2.2.2.2.2.1) ((bw).2.2.2.2.2.2.2.1) ((bw).2.2.2.2.2.2.2.2.1) ((bw).2.2.2.2.2.2.2.2.2.1) ((bw).2.2.2.2.2.2.2.2.2.2.1) ((bw).2.2.2.2.2.2.2.2.2.2.2) m1)/\(
        ∃ zi:UT×LM×Int,zi=(Qa ((bw).1) ((bw).2.1) ((bw).2.2.1) ((bw).2.2.2.1) ((bw).2.2.2.2.1) ((bw).2.2.2.2.2.1) ((bw).2.2.2.2.2.2.1) ((bw).2.2.2.2.2.2.2.1) ((bw).2.2.2.2.2.2.2.2.1) ((bw).2.2.2.2.2.2.2.2.2.1) ((bw).2.2.2.2.2.2.2.2.2.2.1) ((bw).2.2.2.2.2.2.2.2.2.2.2) m1)/\(
        if zi.2.2=0 then
         (IZ bu za zd zf zc zb zi.1.1 zi.1.2.1 zi.1.2.2.1 zi.1.2.2.2.1 zi.1.2.2.2.2.1 zi.1.2.2.2.2.2.1 zi.1.2.2.2.2.2.2.1 zi.1.2.2.2.2.2.2.2.1 zi.1.2.2.2.2.2.2.2.2.1 zi.1.2.2.2.2.2.2.2.2.2.1 zi.1.2.2.2.2.2.2.2.2.2.2.1 zi.1.2.2.2.2.2.2.2.2.2.2.2)/\(
         r=((zi.2.1,0,(Hq bu za zd zf zc zb zi.1.1 zi.1.2.1 zi.1.2.2.1 zi.1.2.2.2.1 zi.1.2.2.2.2.1 zi.1.2.2.2.2.2.1 zi.1.2.2.2.2.2.2.1 zi.1.2.2.2.2.2.2.2.1 zi.1.2.2.2.2.2.2.2.2.1 zi.1.2.2.2.2.2.2.2.2.2.1 zi.1.2.2.2.2.2.2.2.2.2.2.1 zi.1.2.2.2.2.2.2.2.2.2.2.2).1,(Hq bu za zd zf zc zb zi.1.1 zi.1.2.1 zi.1.2.2.1 zi.1.2.2.2.1 zi.1.2.2.2.2.1 zi.1.2.2.2.2.2.1 zi.1.2.2.2.2.2.2.1 zi.1.2.2.2.2.2.2.2.1 zi.1.2.2.2.2.2.2.2.2.1 zi.1.2.2.2.2.2.2.2.2.2.1 zi.1.2.2.2.2.2.2.2.2.2.2.1 zi.1.2.2.2.2.2.2.2.2.2.2.2).2.1,(Hq bu za zd zf zc zb zi.1.1 zi.1.2.1 zi.1.2.2.1 zi.1.2.2.2.1 zi.1.2.2.2.2.1 zi.1.2.2.2.2.2.1 zi.1.2.2.2.2.2.2.1 zi.1.2.2.2.2.2.2.2.1 zi.1.2.2.2.2.2.2.2.2.1 zi.1.2.2.2.2.2.2.2.2.2.1 zi.1.2.2.2.2.2.2.2.2.2.2.1 zi.1.2.2.2.2.2.2.2.2.2.2.2).2.2)))
        else
         r=(([],0,zc,zb,za))))
       else
        if m1 0=7 then
         (Po ((bw).1) ((bw).2.1) ((bw).2.2.1) ((bw).2.2.2.1) ((bw).2.2.2.2.1) ((bw).2.2.2.2.2.1) ((bw).2.2.2.2.2.2.1) ((bw).2.2.2.2.2.2.2.1) ((bw).2.2.2.2.2.2.2.2.1) ((bw).2.2.2.2.2.2.2.2.2.1) ((bw).2.2.2.2.2.2.2.2.2.2.1) ((bw).2.2.2.2.2.2.2.2.2.2.2) m1)/\(
         ∃ zj:UT×Int,zj=(SA ((bw).1) ((bw).2.1) ((bw).2.2.1) ((bw).2.2.2.1) ((bw).2.2.2.2.1) ((bw).2.2.2.2.2.1) ((bw).2.2.2.2.2.2.1) ((bw).2.2.2.2.2.2.2.1) ((bw).2.2.2.2.2.2.2.2.1) ((bw).2.2.2.2.2.2.2.2.2.1) ((bw).2.2.2.2.2.2.2.2.2.2.1) ((bw).2.2.2.2.2.2.2.2.2.2.2) m1)/\(
         if zj.2=0 then
          (IZ bu za zd zf zc zb zj.1.1 zj.1.2.1 zj.1.2.2.1 zj.1.2.2.2.1 zj.1.2.2.2.2.1 zj.1.2.2.2.2.2.1 zj.1.2.2.2.2.2.2.1 zj.1.2.2.2.2.2.2.2.1 zj.1.2.2.2.2.2.2.2.2.1 zj.1.2.2.2.2.2.2.2.2.2.1 zj.1.2.2.2.2.2.2.2.2.2.2.1 zj.1.2.2.2.2.2.2.2.2.2.2.2)/\(
          r=(([],0,(Hq bu za zd zf zc zb zj.1.1 zj.1.2.1 zj.1.2.2.1 zj.1.2.2.2.1 zj.1.2.2.2.2.1 zj.1.2.2.2.2.2.1 zj.1.2.2.2.2.2.2.1 zj.1.2.2.2.2.2.2.2.1 zj.1.2.2.2.2.2.2.2.2.1 zj.1.2.2.2.2.2.2.2.2.2.1 zj.1.2.2.2.2.2.2.2.2.2.2.1 zj.1.2.2.2.2.2.2.2.2.2.2.2).1,(Hq bu za zd zf zc zb zj.1.1 zj.1.2.1 zj.1.2.2.1 zj.1.2.2.2.1 zj.1.2.2.2.2.1 zj.1.2.2.2.2.2.1 zj.1.2.2.2.2.2.2.1 zj.1.2.2.2.2.2.2.2.1 zj.1.2.2.2.2.2.2.2.2.1 zj.1.2.2.2.2.2.2.2.2.2.1 zj.1.2.2.2.2.2.2.2.2.2.2.1 zj.1.2.2.2.2.2.2.2.2.2.2.2).2.1,(Hq bu za zd zf zc zb zj.1.1 zj.1.2.1 zj.1.2.2.1 zj.1.2.2.2.1 zj.1.2.2.2.2.1 zj.1.2.2.2.2.2.1 zj.1.2.2.2.2.2.2.1 zj.1.2.2.2.2.2.2.2.1 zj.1.2.2.2.2.2.2.2.2.1 zj.1.2.2.2.2.2.2.2.2.2.1 zj.1.2.2.2.2.2.2.2.2.2.2.1 zj.1.2.2.2.2.2.2.2.2.2.2.2).2.2)))
         else
          r=(([],0,zc,zb,za))))
        else
         if m1 0=9 then
          (JM bu za zd zf zc zb (m1 3) 5 ([1,2]))/\(
          r=(((Hg bu za zd zf zc zb (m1 3) 5 ([1,2])).1,0,(Hg bu za zd zf zc zb (m1 3) 5 ([1,2])).2.2.1,(Hg bu za zd zf zc zb (m1 3) 5 ([1,2])).2.2.2.1,(Hg bu za zd zf zc zb (m1 3) 5 ([1,2])).2.2.2.2)))
         else
          if m1 0=10 then
           (MU bu za zd zf zc zb m1)/\(
           r=(((IU bu za zd zf zc zb m1).1,0,(IU bu za zd zf zc zb m1).2.1,(IU bu za zd zf zc zb m1).2.2.1,(IU bu za zd zf zc zb m1).2.2.2)))
          else
           r=(([],0,zc,zb,za))
    else
     r=(([],0,zc,zb,za)))
 else
  r=(([],(Js m1),zc,zb,za))
def IN (bu za:NI) (zd zf:Int) (zc:UM) (zb:LM) (m1:NI):LM×Int×UM×LM×NI:=
 if(Js m1)=0 then
  if((!(decide (m1 2=0)))||(decide (bu 0<m1 1)))=true then
   ([],1,zc,zb,za)
  else
   if m1 0=11 then
    ((Jy bu za zd zf zc zb m1).1,0,(Jy bu za zd zf zc zb m1).2.1,(Jy bu za zd zf zc zb m1).2.2.1,(Jy bu za zd zf zc zb m1).2.2.2)
   else
    (fun(bw:UT)=>
     if((KZ HT zc (m1 3)))=true then
      if m1 0=2 then
       (fun(zg:UT×Int)=>
        if zg.2=0 then
         ([],0,(Hq bu za zd zf zc zb zg.1.1 zg.1.2.1 zg.1.2.2.1 zg.1.2.2.2.1 zg.1.2.2.2.2.1 zg.1.2.2.2.2.2.1 zg.1.2.2.2.2.2.2.1 zg.1.2.2.2.2.2.2.2.1 zg.1.2.2.2.2.2.2.2.2.1 zg.1.2.2.2.2.2.2.2.2.2.1 zg.1.2.2.2.2.2.2.2.2.2.2.1 zg.1.2.2.2.2.2.2.2.2.2.2.2).1,((Hq bu za zd zf zc zb zg.1.1 zg.1.2.1 zg.1.2.2.1 zg.1.2.2.2.1 zg.1.2.2.2.2.1 zg.1.2.2.2.2.2.1 zg.1.2.2.2.2.2.2.1 zg.1.2.2.2.2.2.2.2.1 zg.1.2.2.2.2.2.2.2.2.1 zg.1.2.2.2.2.2.2.2.2.2.1 zg.1.2.2.2.2.2.2.2.2.2.2.1 zg.1.2.2.2.2.2.2.2.2.2.2.2).2.1++[(Gq (GX (Gq (Gq (fun _=>0) 0 3) 2 zg.1.1) 3 2 ((bw).2.2.2.2.2.2.1)) 5 (m1 7))]),(Hq bu za zd zf zc zb zg.1.1 zg.1.2.1 zg.1.2.2.1 zg.1.2.2.2.1 zg.1.2.2.2.2.1 zg.1.2.2.2.2.2.1 zg.1.2.2.2.2.2.2.1 zg.1.2.2.2.2.2.2.2.1 zg.1.2.2.2.2.2.2.2.2.1 zg.1.2.2.2.2.2.2.2.2.2.1 zg.1.2.2.2.2.2.2.2.2.2.2.1 zg.1.2.2.2.2.2.2.2.2.2.2.2).2.2)
        else
         ([],0,zc,zb,za)) ((I5 ((bw).1) ((bw).2.1) ((bw).2.2.1) ((bw).2.2.2.1) ((bw).2.2.2.2.1) ((bw).2.2.2.2.2.1) ((bw).2.2.2.2.2.2.1) ((bw).2.2.2.2.2.2.2.1) ((bw).2.2.2.2.2.2.2.2.1) ((bw).2.2.2.2.2.2.2.2.2.1) ((bw).2.2.2.2.2.2.2.2.2.2.1) ((bw).2.2.2.2.2.2.2.2.2.2.2) m1))
      else
       if m1 0=3 then
        (fun(zh:UT×Int)=>
         if zh.2=0 then
          ([],0,(Hq bu za zd zf zc zb zh.1.1 zh.1.2.1 zh.1.2.2.1 zh.1.2.2.2.1 zh.1.2.2.2.2.1 zh.1.2.2.2.2.2.1 zh.1.2.2.2.2.2.2.1 zh.1.2.2.2.2.2.2.2.1 zh.1.2.2.2.2.2.2.2.2.1 zh.1.2.2.2.2.2.2.2.2.2.1 zh.1.2.2.2.2.2.2.2.2.2.2.1 zh.1.2.2.2.2.2.2.2.2.2.2.2).1,((Hq bu za zd zf zc zb zh.1.1 zh.1.2.1 zh.1.2.2.1 zh.1.2.2.2.1 zh.1.2.2.2.2.1 zh.1.2.2.2.2.2.1 zh.1.2.2.2.2.2.2.1 zh.1.2.2.2.2.2.2.2.1 zh.1.2.2.2.2.2.2.2.2.1 zh.1.2.2.2.2.2.2.2.2.2.1 zh.1.2.2.2.2.2.2.2.2.2.2.1 zh.1.2.2.2.2.2.2.2.2.2.2.2).2.1++[(Gq (GX (Gq (Gq (fun _=>0) 0 4) 2 zh.1.1) 3 2 ((bw).2.2.2.2.2.2.1)) 6 (m1 8))]),(Hq bu za zd zf zc zb zh.1.1 zh.1.2.1 zh.1.2.2.1 zh.1.2.2.2.1 zh.1.2.2.2.2.1 zh.1.2.2.2.2.2.1 zh.1.2.2.2.2.2.2.1 zh.1.2.2.2.2.2.2.2.1 zh.1.2.2.2.2.2.2.2.2.1 zh.1.2.2.2.2.2.2.2.2.2.1 zh.1.2.2.2.2.2.2.2.2.2.2.1 zh.1.2.2.2.2.2.2.2.2.2.2.2).2.2)
         else
          ([],0,zc,zb,za)) ((I5 ((bw).1) ((bw).2.1) ((bw).2.2.1) ((bw).2.2.2.1) ((bw).2.2.2.2.1) ((bw).2.2.2.2.2.1) ((bw).2.2.2.2.2.2.1) ((bw).2.2.2.2.2.2.2.1) ((bw).2.2.2.2.2.2.2.2.1) ((bw).2.2.2.2.2.2.2.2.2.1) ((bw).2.2.2.2.2.2.2.2.2.2.1) ((bw).2.2.2.2.2.2.2.2.2.2.2) m1))
       else
        if m1 0=5 then
         (fun(zi:UT×LM×Int)=>
          if zi.2.2=0 then
           (zi.2.1,0,(Hq bu za zd zf zc zb zi.1.1 zi.1.2.1 zi.1.2.2.1 zi.1.2.2.2.1 zi.1.2.2.2.2.1 zi.1.2.2.2.2.2.1 zi.1.2.2.2.2.2.2.1 zi.1.2.2.2.2.2.2.2.1 zi.1.2.2.2.2.2.2.2.2.1 zi.1.2.2.2.2.2.2.2.2.2.1 zi.1.2.2.2.2.2.2.2.2.2.2.1 zi.1.2.2.2.2.2.2.2.2.2.2.2).1,(Hq bu za zd zf zc zb zi.1.1 zi.1.2.1 zi.1.2.2.1 zi.1.2.2.2.1 zi.1.2.2.2.2.1 zi.1.2.2.2.2.2.1 zi.1.2.2.2.2.2.2.1 zi.1.2.2.2.2.2.2.2.1 zi.1.2.2.2.2.2.2.2.2.1 zi.1.2.2.2.2.2.2.2.2.2.1 zi.1.2.2.2.2.2.2.2.2.2.2.1 zi.1.2.2.2.2.2.2.2.2.2.2.2).2.1,(Hq bu za zd zf zc zb zi.1.1 zi.1.2.1 zi.1.2.2.1 zi.1.2.2.2.1 zi.1.2.2.2.2.1 zi.1.2.2.2.2.2.1 zi.1.2.2.2.2.2.2.1 zi.1.2.2.2.2.2.2.2.1 zi.1.2.2.2.2.2.2.2.2.1 zi.1.2.2.2.2.2.2.2.2.2.1 zi.1.2.2.2.2.2.2.2.2.2.2.1 zi.1.2.2.2.2.2.2.2.2.2.2.2).2.2)
          else
           ([],0,zc,zb,za)) ((Qa ((bw).1) ((bw).2.1) ((bw).2.2.1) ((bw).2.2.2.1) ((bw).2.2.2.2.1) ((bw).2.2.2.2.2.1) ((bw).2.2.2.2.2.2.1) ((bw).2.2.2.2.2.2.2.1) ((bw).2.2.2.2.2.2.2.2.1) ((bw).2.2.2.2.2.2.2.2.2.1) ((bw).2.2.2.2.2.2.2.2.2.2.1) ((bw).2.2.2.2.2.2.2.2.2.2.2) m1))
        else
         if m1 0=7 then
          (fun(zj:UT×Int)=>
           if zj.2=0 then
            ([],0,(Hq bu za zd zf zc zb zj.1.1 zj.1.2.1 zj.1.2.2.1 zj.1.2.2.2.1 zj.1.2.2.2.2.1 zj.1.2.2.2.2.2.1 zj.1.2.2.2.2.2.2.1 zj.1.2.2.2.2.2.2.2.1 zj.1.2.2.2.2.2.2.2.2.1 zj.1.2.2.2.2.2.2.2.2.2.1 zj.1.2.2.2.2.2.2.2.2.2.2.1 zj.1.2.2.2.2.2.2.2.2.2.2.2).1,(Hq bu za zd zf zc zb zj.1.1 zj.1.2.1 zj.1.2.2.1 zj.1.2.2.2.1 zj.1.2.2.2.2.1 zj.1.2.2.2.2.2.1 zj.1.2.2.2.2.2.2.1 zj.1.2.2.2.2.2.2.2.1 zj.1.2.2.2.2.2.2.2.2.1 zj.1.2.2.2.2.2.2.2.2.2.1 zj.1.2.2.2.2.2.2.2.2.2.2.1 zj.1.2.2.2.2.2.2.2.2.2.2.2).2.1,(Hq bu za zd zf zc zb zj.1.1 zj.1.2.1 zj.1.2.2.1 zj.1.2.2.2.1 zj.1.2.2.2.2.1 zj.1.2.2.2.2.2.1 zj.1.2.2.2.2.2.2.1 zj.1.2.2.2.2.2.2.2.1 zj.1.2.2.2.2.2.2.2.2.1 zj.1.2.2.2.2.2.2.2.2.2.1 zj.1.2.2.2.2.2.2.2.2.2.2.1 zj.1.2.2.2.2.2.2.2.2.2.2.2).2.2)
           else
            ([],0,zc,zb,za)) ((SA ((bw).1) ((bw).2.1) ((bw).2.2.1) ((bw).2.2.2.1) ((bw).2.2.2.2.1) ((bw).2.2.2.2.2.1) ((bw).2.2.2.2.2.2.1) ((bw).2.2.2.2.2.2.2.1) ((bw).2.2.2.2.2.2.2.2.1) ((bw).2.2.2.2.2.2.2.2.2.1) ((bw).2.2.2.2.2.2.2.2.2.2.1) ((bw).2.2.2.2.2.2.2.2.2.2.2) m1))
         else
          if m1 0=9 then
           ((Hg bu za zd zf zc zb (m1 3) 5 ([1,2])).1,0,(Hg bu za zd zf zc zb (m1 3) 5 ([1,2])).2.2.1,(Hg bu za zd zf zc zb (m1 3) 5 ([1,2])).2.2.2.1,(Hg bu za zd zf zc zb (m1 3) 5 ([1,2])).2.2.2.2)
          else
           if m1 0=10 then
            ((IU bu za zd zf zc zb m1).1,0,(IU bu za zd zf zc zb m1).2.1,(IU bu za zd zf zc zb m1).2.2.1,(IU bu za zd zf zc zb m1).2.2.2)
           else
            ([],0,zc,zb,za)
     else
      ([],0,zc,zb,za)) (H5 HT zc (m1 3) (0,0,0,0,false,0,(fun _=>0),0,[],[],[],[]))
 else
  ([],(Js m1),zc,zb,za)
def Qp (bu za:NI) (zd zf:Int) (zc:UM) (zb:LM) (m1:NI):Prop:=
 if(Js m1)=0 then
  if((!(decide (m1 2=0)))||(decide (bu 0<m1 1)))=true then
   True
  else
   if m1 0=11 then
    (N3 bu za zd zf zc zb m1)/\(
    True)
   else
    (fun(bw:UT)=>
     if((KZ HT zc (m1 3)))=true then
      if m1 0=2 then
       (IL ((bw).1) ((bw).2.1) ((bw).2.2.1) ((bw).2.2.2.1) ((bw).2.2.2.2.1) ((bw).2.2.2.2.2.1) ((bw).2.2.2.2.2.2.1) ((bw).2.2.2.2.2.2.2.1) ((bw).2.2.2.2.2.2.2.2.1) ((bw).2.2.2.2.2.2.2.2.2.1) ((bw).2.2.2.2.2.2.2.2.2.2.1) ((bw).2.2.2.2.2.2.2.2.2.2.2) m1)/\(
       (fun(zg:UT×Int)=>
        if zg.2=0 then
         (IZ bu za zd zf zc zb zg.1.1 zg.1.2.1 zg.1.2.2.1 zg.1.2.2.2.1 zg.1.2.2.2.2.1 zg.1.2.2.2.2.2.1 zg.1.2.2.2.2.2.2.1 zg.1.2.2.2.2.2.2.2.1 zg.1.2.2.2.2.2.2.2.2.1 zg.1.2.2.2.2.2.2.2.2.2.1 zg.1.2.2.2.2.2.2.2.2.2.2.1 zg.1.2.2.2.2.2.2.2.2.2.2.2)/\(
         ((((Hq bu za zd zf zc zb zg.1.1 zg.1.2.1 zg.1.2.2.1 zg.1.2.2.2.1 zg.1.2.2.2.2.1 zg.1.2.2.2.2.2.1 zg.1.2.2.2.2.2.2.1 zg.1.2.2.2.2.2.2.2.1 zg.1.2.2.2.2.2.2.2.2.1 zg.1.2.2.2.2.2.2.2.2.2.1 zg.1.2.2.2.2.2.2.2.2.2.2.1 zg.1.2.2.2.2.2.2.2.2.2.2.2).2.1).length+1)*56<=140737488355328)/\(
         True))
        else
         True) ((I5 ((bw).1) ((bw).2.1) ((bw).2.2.1) ((bw).2.2.2.1) ((bw).2.2.2.2.1) ((bw).2.2.2.2.2.1) ((bw).2.2.2.2.2.2.1) ((bw).2.2.2.2.2.2.2.1) ((bw).2.2.2.2.2.2.2.2.1) ((bw).2.2.2.2.2.2.2.2.2.1) ((bw).2.2.2.2.2.2.2.2.2.2.1) ((bw).2.2.2.2.2.2.2.2.2.2.2) m1)))
      else
       if m1 0=3 then
        (IL ((bw).1) ((bw).2.1) ((bw).2.2.1) ((bw).2.2.2.1) ((bw).2.2.2.2.1) ((bw).2.2.2.2.2.1) ((bw).2.2.2.2.2.2.1) ((bw).2.2.2.2.2.2.2.1) ((bw).2.2.2.2.2.2.2.2.1) ((bw).2.2.2.2.2.2.2.2.2.1) ((bw).2.2.2.2.2.2.2.2.2.2.1) ((bw).2.2.2.2.2.2.2.2.2.2.2) m1)/\(
        (fun(zh:UT×Int)=>
         if zh.2=0 then
          (IZ bu za zd zf zc zb zh.1.1 zh.1.2.1 zh.1.2.2.1 zh.1.2.2.2.1 zh.1.2.2.2.2.1 zh.1.2.2.2.2.2.1 zh.1.2.2.2.2.2.2.1 zh.1.2.2.2.2.2.2.2.1 zh.1.2.2.2.2.2.2.2.2.1 zh.1.2.2.2.2.2.2.2.2.2.1 zh.1.2.2.2.2.2.2.2.2.2.2.1 zh.1.2.2.2.2.2.2.2.2.2.2.2)/\(
          ((((Hq bu za zd zf zc zb zh.1.1 zh.1.2.1 zh.1.2.2.1 zh.1.2.2.2.1 zh.1.2.2.2.2.1 zh.1.2.2.2.2.2.1 zh.1.2.2.2.2.2.2.1 zh.1.2.2.2.2.2.2.2.1 zh.1.2.2.2.2.2.2.2.2.1 zh.1.2.2.2.2.2.2.2.2.2.1 zh.1.2.2.2.2.2.2.2.2.2.2.1 zh.1.2.2.2.2.2.2.2.2.2.2.2).2.1).length+1)*56<=140737488355328)/\(
          True))
         else
          True) ((I5 ((bw).1) ((bw).2.1) ((bw).2.2.1) ((bw).2.2.2.1) ((bw).2.2.2.2.1) ((bw).2.2.2.2.2.1) ((bw).2.2.2.2.2.2.1) ((bw).2.2.2.2.2.2.2.1) ((bw).2.2.2.2.2.2.2.2.1) ((bw).2.2.2.2.2.2.2.2.2.1) ((bw).2.2.2.2.2.2.2.2.2.2.1) ((bw).2.2.2.2.2.2.2.2.2.2.2) m1)))
       else
        if m1 0=5 then
         (Nj ((bw).1) ((bw).2.1) ((bw).2.2.1) ((bw).2.2.2.1) ((bw).2.2.2.2.1) ((bw).2.2.2.2.2.1) ((bw).2.2.2.2.2.2.1) ((bw).2.2.2.2.2.2.2.1) ((bw).2.2.2.2.2.2.2.2.1) ((bw).2.2.2.2.2.2.2.2.2.1) ((bw).2.2.2.2.2.2.2.2.2.2.1) ((bw).2.2.2.2.2.2.2.2.2.2.2) m1)/\(
         (fun(zi:UT×LM×Int)=>
          if zi.2.2=0 then
           (IZ bu za zd zf zc zb zi.1.1 zi.1.2.1 zi.1.2.2.1 zi.1.2.2.2.1 zi.1.2.2.2.2.1 zi.1.2.2.2.2.2.1 zi.1.2.2.2.2.2.2.1 zi.1.2.2.2.2.2.2.2.1 zi.1.2.2.2.2.2.2.2.2.1 zi.1.2.2.2.2.2.2.2.2.2.1 zi.1.2.2.2.2.2.2.2.2.2.2.1 zi.1.2.2.2.2.2.2.2.2.2.2.2)/\(
           True)
          else
           True) ((Qa ((bw).1) ((bw).2.1) ((bw).2.2.1) ((bw).2.2.2.1) ((bw).2.2.2.2.1) ((bw).2.2.2.2.2.1) ((bw).2.2.2.2.2.2.1) ((bw).2.2.2.2.2.2.2.1) ((bw).2.2.2.2.2.2.2.2.1) ((bw).2.2.2.2.2.2.2.2.2.1) ((bw).2.2.2.2.2.2.2.2.2.2.1) ((bw).2.2.2.2.2.2.2.2.2.2.2) m1)))
        else
         if m1 0=7 then
          (Po ((bw).1) ((bw).2.1) ((bw).2.2.1) ((bw).2.2.2.1) ((bw).2.2.2.2.1) ((bw).2.2.2.2.2.1) ((bw).2.2.2.2.2.2.1) ((bw).2.2.2.2.2.2.2.1) ((bw).2.2.2.2.2.2.2.2.1) ((bw).2.2.2.2.2.2.2.2.2.1) ((bw).2.2.2.2.2.2.2.2.2.2.1) ((bw).2.2.2.2.2.2.2.2.2.2.2) m1)/\(
          (fun(zj:UT×Int)=>
           if zj.2=0 then
            (IZ bu za zd zf zc zb zj.1.1 zj.1.2.1 zj.1.2.2.1 zj.1.2.2.2.1 zj.1.2.2.2.2.1 zj.1.2.2.2.2.2.1 zj.1.2.2.2.2.2.2.1 zj.1.2.2.2.2.2.2.2.1 zj.1.2.2.2.2.2.2.2.2.1 zj.1.2.2.2.2.2.2.2.2.2.1 zj.1.2.2.2.2.2.2.2.2.2.2.1 zj.1.2.2.2.2.2.2.2.2.2.2.2)/\(
            True)
           else
            True) ((SA ((bw).1) ((bw).2.1) ((bw).2.2.1) ((bw).2.2.2.1) ((bw).2.2.2.2.1) ((bw).2.2.2.2.2.1) ((bw).2.2.2.2.2.2.1) ((bw).2.2.2.2.2.2.2.1) ((bw).2.2.2.2.2.2.2.2.1) ((bw).2.2.2.2.2.2.2.2.2.1) ((bw).2.2.2.2.2.2.2.2.2.2.1) ((bw).2.2.2.2.2.2.2.2.2.2.2) m1)))
         else
          if m1 0=9 then
           (JM bu za zd zf zc zb (m1 3) 5 ([1,2]))/\(
           True)
          else
           if m1 0=10 then
            (MU bu za zd zf zc zb m1)/\(
            True)
           else
            True
     else
      True) (H5 HT zc (m1 3) (0,0,0,0,false,0,(fun _=>0),0,[],[],[],[]))
 else
  True
theorem ZY {bu za zd zf zc zb m1} (hP:Qp bu za zd zf zc zb m1):Td bu za zd zf zc zb m1 (IN bu za zd zf zc zb m1):=OKW hP
def LW (bu za:NI) (zd zf:Int) (bH:LM) (pM:Int) (zl:NI) (zk:UM) (zm:LM) (o:(LM×Int×NI×UM×LM) ⊕ (LM×NI×UM×LM)):Prop:=
 if pM<((HU za (zd+1) (bu 2)).length:Int) then
  (0<=pM/\pM<(HU za (zd+1) (bu 2)).length)/\(
  (JM bu zl (zd+1) zf zk zm ((HU za (zd+1) (bu 2))[pM.toNat]!) 5 ([1]))/\(
  ((bH.length+((Hg bu zl (zd+1) zf zk zm ((HU za (zd+1) (bu 2))[pM.toNat]!) 5 ([1])).1).length)*224<=140737488355328)/\(
  (GN (pM+1))/\(
  o=(.inl ((bH++(Hg bu zl (zd+1) zf zk zm ((HU za (zd+1) (bu 2))[pM.toNat]!) 5 ([1])).1),pM+1,(Hg bu zl (zd+1) zf zk zm ((HU za (zd+1) (bu 2))[pM.toNat]!) 5 ([1])).2.2.2.2,(Hg bu zl (zd+1) zf zk zm ((HU za (zd+1) (bu 2))[pM.toNat]!) 5 ([1])).2.2.1,(Hg bu zl (zd+1) zf zk zm ((HU za (zd+1) (bu 2))[pM.toNat]!) 5 ([1])).2.2.2.1))))))
 else
  o=(.inr (bH,zl,zk,zm))
def LV (bu:NI) (zd zf:Int) (zl:NI) (zk:UM) (zm di:LM) (kT:Int) (o:(LM×Int) ⊕ (LM)):Prop:=
 if kT<((Hb bu zl (zd+1) zf zk zm).length:Int) then
  (0<=kT/\kT<(Hb bu zl (zd+1) zf zk zm).length)/\(
  ∃ zn:UT,zn=H5 HT zk ((Hb bu zl (zd+1) zf zk zm)[kT.toNat]!) (0,0,0,0,false,0,(fun _=>0),0,[],[],[],[])/\(
  (Kl zl ((Kg zl ((Hb bu zl (zd+1) zf zk zm)[kT.toNat]!)).1))/\(
  (MF ((zn).1) ((zn).2.1) ((zn).2.2.1) ((zn).2.2.2.1) ((zn).2.2.2.2.1) ((zn).2.2.2.2.2.1) ((zn).2.2.2.2.2.2.1) ((zn).2.2.2.2.2.2.2.1) ((zn).2.2.2.2.2.2.2.2.1) ((zn).2.2.2.2.2.2.2.2.2.1) ((zn).2.2.2.2.2.2.2.2.2.2.1) ((zn).2.2.2.2.2.2.2.2.2.2.2) (Jd zl ((Kg zl ((Hb bu zl (zd+1) zf zk zm)[kT.toNat]!)).1)))/\(
  ((di.length+(NU ((zn).1) ((zn).2.1) ((zn).2.2.1) ((zn).2.2.2.1) ((zn).2.2.2.2.1) ((zn).2.2.2.2.2.1) ((zn).2.2.2.2.2.2.1) ((zn).2.2.2.2.2.2.2.1) ((zn).2.2.2.2.2.2.2.2.1) ((zn).2.2.2.2.2.2.2.2.2.1) ((zn).2.2.2.2.2.2.2.2.2.2.1) ((zn).2.2.2.2.2.2.2.2.2.2.2) (Jd zl ((Kg zl ((Hb bu zl (zd+1) zf zk zm)[kT.toNat]!)).1))).length)*224<=140737488355328)/\(
  (GN (kT+1))/\(
  o=(.inl ((di++(NU ((zn).1) ((zn).2.1) ((zn).2.2.1) ((zn).2.2.2.1) ((zn).2.2.2.2.1) ((zn).2.2.2.2.2.1) ((zn).2.2.2.2.2.2.1) ((zn).2.2.2.2.2.2.2.1) ((zn).2.2.2.2.2.2.2.2.1) ((zn).2.2.2.2.2.2.2.2.2.1) ((zn).2.2.2.2.2.2.2.2.2.2.1) ((zn).2.2.2.2.2.2.2.2.2.2.2) (Jd zl ((Kg zl ((Hb bu zl (zd+1) zf zk zm)[kT.toNat]!)).1)))),kT+1))))))))
 else
  o=(.inr di)
def S9 (zd:Int) (zl:NI) (zk:UM) (zm di:LM) (r:LM×Int×UM×LM×NI):Prop:=
 r=((di,zd+1,zk,zm,zl))
def Qo (bu:NI) (zd zf:Int) (bH:LM) (zl:NI) (zk:UM) (zm:LM) (r:LM×Int×UM×LM×NI):Prop:=
 ((bu 3)≠0)/\(
 if(zd+1).tmod (bu 3)=0 then
  (Rh bu zl (zd+1) zf zk zm)/\(
  ∃ x:LM,Wh (fun(s:LM×Int) (o:(LM×Int) ⊕ (LM))=>LV bu zd zf zl zk zm s.1 s.2 o) ((bH,0):LM×Int) x/\S9 zd zl zk zm x r)
 else
  r=((bH,zd+1,zk,zm,zl)))
def Xj (bu za:NI) (zd zf:Int) (zc:UM) (zb:LM) (r:LM×Int×UM×LM×NI):Prop:=
 (GN (zd+1))/\(
 (Abu za (zd+1) (bu 2))/\(
 ∃ x:LM×NI×UM×LM,Wh (fun(s:LM×Int×NI×UM×LM) (o:(LM×Int×NI×UM×LM) ⊕ (LM×NI×UM×LM))=>LW bu za zd zf s.1 s.2.1 s.2.2.1 s.2.2.2.1 s.2.2.2.2 o) (([],0,za,zc,zb):LM×Int×NI×UM×LM) x/\Qo bu zd zf x.1 x.2.1 x.2.2.1 x.2.2.2 r))
end Go.E
namespace Go.E
open Go
def OK (a0 b1:LM) (i5:Int) (o:(Int) ⊕ ((Unit) ⊕ (Unit))):Prop:=
 if i5<(a0.length:Int) then
  (0<=i5/\i5<a0.length)/\(
  (0<=i5/\i5<b1.length)/\(
  if((IJ 28 (a0[i5.toNat]!) (b1[i5.toNat]!)))=true then
   (GN (i5+1))/\(
   o=(.inl (i5+1)))
  else
   o=(.inr (.inr ()))))
 else
  o=(.inr (.inl ()))
def UW (r:Bool):Prop:=
 r=(true)
def UV (r:Bool):Prop:=
 r=(false)
def W9 (a0 b1:LM) (r:Bool):Prop:=
 if(a0.length:Int)=(b1.length:Int) then
  ∃ x:(Unit) ⊕ (Unit),Wh (fun(s:Int) (o:(Int) ⊕ ((Unit) ⊕ (Unit)))=>OK a0 b1 s o) (0:Int) x/\(match x with | .inl _=>UW r | .inr _=>UV r)
 else
  r=(false)
end Go.E
namespace Go.E
open Go
def QY (a b:LM):Bool:=decide (a.length=b.length)&&(List.range a.length).all fun k=>IJ 28 (a[k]!) (b[k]!)
def SZ (a _:LM):Prop:=a.length<9000000000000000000
theorem Aa3 {a b:LM} (h:SZ a b):W9 a b (QY a b):=by
 unfold SZ at h
 unfold W9 QY
 by_cases hl:a.length=b.length
 .rw[Ae Aa,decide_eq_true hl,Bool.true_and]
  have:=Wh.all (f:=fun(s:Int) (o:Int ⊕ (Unit ⊕ Unit))=>OK a b s o) a.length (fun k=>IJ 28 (a[k]!) (b[k]!)) (.inl ()) (.inr ()) (fun k hk hp=>by
    unfold OK
    rw[Ae Aa]
    refine⟨⟨Aa,Aa⟩,⟨Aa,Aa⟩,?_⟩
    rw[Int.toNat_natCast,Ae hp]
    exact⟨JK Aa,rfl⟩) (fun k hk hp=>by
    unfold OK
    rw[Ae Aa]
    refine⟨⟨Aa,Aa⟩,⟨Aa,Aa⟩,?_⟩
    rw[Int.toNat_natCast,Af (by rw[hp];decide)]) (by
    unfold OK
    rw[Af Aa])
  refine⟨_,this,?_⟩
  by_cases hall:(List.range a.length).all (fun k=>IJ 28 (a[k]!) (b[k]!))=true
  .rw[Ae hall,hall];rfl
  .rw[Af hall]
   have:(List.range a.length).all (fun k=>IJ 28 (a[k]!) (b[k]!))=false:=by simpa using hall
   rw[this];rfl
 .rw[Af Aa,decide_eq_false hl,Bool.false_and]
theorem Acf {a:LM}:QY a a=true:=by
 unfold QY
 rw[decide_eq_true rfl,Bool.true_and,List.all_eq_true]
 exact fun k _=>YX
end Go.E
namespace Go.E
open Go
def Qy (r:Bool):Prop:=
 if((decide (1<=2))&&(decide (2<=64)))=true then
  if((decide (1<=5))&&(decide (5<=1000)))=true then
   if((decide (1<=3))&&(decide (3<=1000)))=true then
    if((decide (1<=40))&&(decide (40<=4096)))=true then
     if((decide (1<=6))&&(decide (6<=64)))=true then
      if((decide (1<=1000))&&(decide (1000<=65536)))=true then
       (K6 (Gq (Gq (Gq (Gq (Gq (Gq (Gq (fun _=>0) 0 2) 1 (bI false)) 2 5) 3 3) 4 40) 5 6) 6 1000) (Gq (fun _=>0) 0 2) 0 0 ([]) ([]) 1)/\(
       (RX (Gq (Gq (Gq (Gq (Gq (Gq (Gq (fun _=>0) 0 2) 1 (bI false)) 2 5) 3 3) 4 40) 5 6) 6 1000) ((GT (Gq (Gq (Gq (Gq (Gq (Gq (Gq (fun _=>0) 0 2) 1 (bI false)) 2 5) 3 3) 4 40) 5 6) 6 1000) (Gq (fun _=>0) 0 2) 0 0 ([]) ([]) 1).2.2.2.2.2) 0 ((GT (Gq (Gq (Gq (Gq (Gq (Gq (Gq (fun _=>0) 0 2) 1 (bI false)) 2 5) 3 3) 4 40) 5 6) 6 1000) (Gq (fun _=>0) 0 2) 0 0 ([]) ([]) 1).2.2.1) ((GT (Gq (Gq (Gq (Gq (Gq (Gq (Gq (fun _=>0) 0 2) 1 (bI false)) 2 5) 3 3) 4 40) 5 6) 6 1000) (Gq (fun _=>0) 0 2) 0 0 ([]) ([]) 1).2.2.2.1) ((GT (Gq (Gq (Gq (Gq (Gq (Gq (Gq (fun _=>0) 0 2) 1 (bI false)) 2 5) 3 3) 4 40) 5 6) 6 1000) (Gq (fun _=>0) 0 2) 0 0 ([]) ([]) 1).2.2.2.2.1) 1 (Gq (fun _=>0) 0 3) 4)/\(
       (N4 (Gq (Gq (Gq (Gq (Gq (Gq (Gq (fun _=>0) 0 2) 1 (bI false)) 2 5) 3 3) 4 40) 5 6) 6 1000) ((Ih (Gq (Gq (Gq (Gq (Gq (Gq (Gq (fun _=>0) 0 2) 1 (bI false)) 2 5) 3 3) 4 40) 5 6) 6 1000) ((GT (Gq (Gq (Gq (Gq (Gq (Gq (Gq (fun _=>0) 0 2) 1 (bI false)) 2 5) 3 3) 4 40) 5 6) 6 1000) (Gq (fun _=>0) 0 2) 0 0 ([]) ([]) 1).2.2.2.2.2) 0 ((GT (Gq (Gq (Gq (Gq (Gq (Gq (Gq (fun _=>0) 0 2) 1 (bI false)) 2 5) 3 3) 4 40) 5 6) 6 1000) (Gq (fun _=>0) 0 2) 0 0 ([]) ([]) 1).2.2.1) ((GT (Gq (Gq (Gq (Gq (Gq (Gq (Gq (fun _=>0) 0 2) 1 (bI false)) 2 5) 3 3) 4 40) 5 6) 6 1000) (Gq (fun _=>0) 0 2) 0 0 ([]) ([]) 1).2.2.2.1) ((GT (Gq (Gq (Gq (Gq (Gq (Gq (Gq (fun _=>0) 0 2) 1 (bI false)) 2 5) 3 3) 4 40) 5 6) 6 1000) (Gq (fun _=>0) 0 2) 0 0 ([]) ([]) 1).2.2.2.2.1) 1 (Gq (fun _=>0) 0 3) 4).2.2.2.2) 0 ((GT (Gq (Gq (Gq (Gq (Gq (Gq (Gq (fun _=>0) 0 2) 1 (bI false)) 2 5) 3 3) 4 40) 5 6) 6 1000) (Gq (fun _=>0) 0 2) 0 0 ([]) ([]) 1).2.2.1) ((Ih (Gq (Gq (Gq (Gq (Gq (Gq (Gq (fun _=>0) 0 2) 1 (bI false)) 2 5) 3 3) 4 40) 5 6) 6 1000) ((GT (Gq (Gq (Gq (Gq (Gq (Gq (Gq (fun _=>0) 0 2) 1 (bI false)) 2 5) 3 3) 4 40) 5 6) 6 1000) (Gq (fun _=>0) 0 2) 0 0 ([]) ([]) 1).2.2.2.2.2) 0 ((GT (Gq (Gq (Gq (Gq (Gq (Gq (Gq (fun _=>0) 0 2) 1 (bI false)) 2 5) 3 3) 4 40) 5 6) 6 1000) (Gq (fun _=>0) 0 2) 0 0 ([]) ([]) 1).2.2.1) ((GT (Gq (Gq (Gq (Gq (Gq (Gq (Gq (fun _=>0) 0 2) 1 (bI false)) 2 5) 3 3) 4 40) 5 6) 6 1000) (Gq (fun _=>0) 0 2) 0 0 ([]) ([]) 1).2.2.2.1) ((GT (Gq (Gq (Gq (Gq (Gq (Gq (Gq (fun _=>0) 0 2) 1 (bI false)) 2 5) 3 3) 4 40) 5 6) 6 1000) (Gq (fun _=>0) 0 2) 0 0 ([]) ([]) 1).2.2.2.2.1) 1 (Gq (fun _=>0) 0 3) 4).2.2.1) ((Ih (Gq (Gq (Gq (Gq (Gq (Gq (Gq (fun _=>0) 0 2) 1 (bI false)) 2 5) 3 3) 4 40) 5 6) 6 1000) ((GT (Gq (Gq (Gq (Gq (Gq (Gq (Gq (fun _=>0) 0 2) 1 (bI false)) 2 5) 3 3) 4 40) 5 6) 6 1000) (Gq (fun _=>0) 0 2) 0 0 ([]) ([]) 1).2.2.2.2.2) 0 ((GT (Gq (Gq (Gq (Gq (Gq (Gq (Gq (fun _=>0) 0 2) 1 (bI false)) 2 5) 3 3) 4 40) 5 6) 6 1000) (Gq (fun _=>0) 0 2) 0 0 ([]) ([]) 1).2.2.1) ((GT (Gq (Gq (Gq (Gq (Gq (Gq (Gq (fun _=>0) 0 2) 1 (bI false)) 2 5) 3 3) 4 40) 5 6) 6 1000) (Gq (fun _=>0) 0 2) 0 0 ([]) ([]) 1).2.2.2.1) ((GT (Gq (Gq (Gq (Gq (Gq (Gq (Gq (fun _=>0) 0 2) 1 (bI false)) 2 5) 3 3) 4 40) 5 6) 6 1000) (Gq (fun _=>0) 0 2) 0 0 ([]) ([]) 1).2.2.2.2.1) 1 (Gq (fun _=>0) 0 3) 4).2.2.2.1) 1)/\(
       if(GT (Gq (Gq (Gq (Gq (Gq (Gq (Gq (fun _=>0) 0 2) 1 (bI false)) 2 5) 3 3) 4 40) 5 6) 6 1000) (Gq (fun _=>0) 0 2) 0 0 ([]) ([]) 1).1=1 then
        if(GT (Gq (Gq (Gq (Gq (Gq (Gq (Gq (fun _=>0) 0 2) 1 (bI false)) 2 5) 3 3) 4 40) 5 6) 6 1000) (Gq (fun _=>0) 0 2) 0 0 ([]) ([]) 1).2.1=0 then
         if(Ih (Gq (Gq (Gq (Gq (Gq (Gq (Gq (fun _=>0) 0 2) 1 (bI false)) 2 5) 3 3) 4 40) 5 6) 6 1000) ((GT (Gq (Gq (Gq (Gq (Gq (Gq (Gq (fun _=>0) 0 2) 1 (bI false)) 2 5) 3 3) 4 40) 5 6) 6 1000) (Gq (fun _=>0) 0 2) 0 0 ([]) ([]) 1).2.2.2.2.2) 0 ((GT (Gq (Gq (Gq (Gq (Gq (Gq (Gq (fun _=>0) 0 2) 1 (bI false)) 2 5) 3 3) 4 40) 5 6) 6 1000) (Gq (fun _=>0) 0 2) 0 0 ([]) ([]) 1).2.2.1) ((GT (Gq (Gq (Gq (Gq (Gq (Gq (Gq (fun _=>0) 0 2) 1 (bI false)) 2 5) 3 3) 4 40) 5 6) 6 1000) (Gq (fun _=>0) 0 2) 0 0 ([]) ([]) 1).2.2.2.1) ((GT (Gq (Gq (Gq (Gq (Gq (Gq (Gq (fun _=>0) 0 2) 1 (bI false)) 2 5) 3 3) 4 40) 5 6) 6 1000) (Gq (fun _=>0) 0 2) 0 0 ([]) ([]) 1).2.2.2.2.1) 1 (Gq (fun _=>0) 0 3) 4).2.1=0 then
          (SZ ((Ih (Gq (Gq (Gq (Gq (Gq (Gq (Gq (fun _=>0) 0 2) 1 (bI false)) 2 5) 3 3) 4 40) 5 6) 6 1000) ((GT (Gq (Gq (Gq (Gq (Gq (Gq (Gq (fun _=>0) 0 2) 1 (bI false)) 2 5) 3 3) 4 40) 5 6) 6 1000) (Gq (fun _=>0) 0 2) 0 0 ([]) ([]) 1).2.2.2.2.2) 0 ((GT (Gq (Gq (Gq (Gq (Gq (Gq (Gq (fun _=>0) 0 2) 1 (bI false)) 2 5) 3 3) 4 40) 5 6) 6 1000) (Gq (fun _=>0) 0 2) 0 0 ([]) ([]) 1).2.2.1) ((GT (Gq (Gq (Gq (Gq (Gq (Gq (Gq (fun _=>0) 0 2) 1 (bI false)) 2 5) 3 3) 4 40) 5 6) 6 1000) (Gq (fun _=>0) 0 2) 0 0 ([]) ([]) 1).2.2.2.1) ((GT (Gq (Gq (Gq (Gq (Gq (Gq (Gq (fun _=>0) 0 2) 1 (bI false)) 2 5) 3 3) 4 40) 5 6) 6 1000) (Gq (fun _=>0) 0 2) 0 0 ([]) ([]) 1).2.2.2.2.1) 1 (Gq (fun _=>0) 0 3) 4).1) ([(Gq (GX (Gq (Gq (Gq (Gq (fun _=>0) 0 1) 2 1) 3 1) 4 1) 5 2 (Gq (fun _=>0) 0 3)) 7 4)]))/\(
          if((QY ((Ih (Gq (Gq (Gq (Gq (Gq (Gq (Gq (fun _=>0) 0 2) 1 (bI false)) 2 5) 3 3) 4 40) 5 6) 6 1000) ((GT (Gq (Gq (Gq (Gq (Gq (Gq (Gq (fun _=>0) 0 2) 1 (bI false)) 2 5) 3 3) 4 40) 5 6) 6 1000) (Gq (fun _=>0) 0 2) 0 0 ([]) ([]) 1).2.2.2.2.2) 0 ((GT (Gq (Gq (Gq (Gq (Gq (Gq (Gq (fun _=>0) 0 2) 1 (bI false)) 2 5) 3 3) 4 40) 5 6) 6 1000) (Gq (fun _=>0) 0 2) 0 0 ([]) ([]) 1).2.2.1) ((GT (Gq (Gq (Gq (Gq (Gq (Gq (Gq (fun _=>0) 0 2) 1 (bI false)) 2 5) 3 3) 4 40) 5 6) 6 1000) (Gq (fun _=>0) 0 2) 0 0 ([]) ([]) 1).2.2.2.1) ((GT (Gq (Gq (Gq (Gq (Gq (Gq (Gq (fun _=>0) 0 2) 1 (bI false)) 2 5) 3 3) 4 40) 5 6) 6 1000) (Gq (fun _=>0) 0 2) 0 0 ([]) ([]) 1).2.2.2.2.1) 1 (Gq (fun _=>0) 0 3) 4).1) ([(Gq (GX (Gq (Gq (Gq (Gq (fun _=>0) 0 1) 2 1) 3 1) 4 1) 5 2 (Gq (fun _=>0) 0 3)) 7 4)])))=true then
           r=(decide ((Hp ((IA (Gq (Gq (Gq (Gq (Gq (Gq (Gq (fun _=>0) 0 2) 1 (bI false)) 2 5) 3 3) 4 40) 5 6) 6 1000) ((Ih (Gq (Gq (Gq (Gq (Gq (Gq (Gq (fun _=>0) 0 2) 1 (bI false)) 2 5) 3 3) 4 40) 5 6) 6 1000) ((GT (Gq (Gq (Gq (Gq (Gq (Gq (Gq (fun _=>0) 0 2) 1 (bI false)) 2 5) 3 3) 4 40) 5 6) 6 1000) (Gq (fun _=>0) 0 2) 0 0 ([]) ([]) 1).2.2.2.2.2) 0 ((GT (Gq (Gq (Gq (Gq (Gq (Gq (Gq (fun _=>0) 0 2) 1 (bI false)) 2 5) 3 3) 4 40) 5 6) 6 1000) (Gq (fun _=>0) 0 2) 0 0 ([]) ([]) 1).2.2.1) ((GT (Gq (Gq (Gq (Gq (Gq (Gq (Gq (fun _=>0) 0 2) 1 (bI false)) 2 5) 3 3) 4 40) 5 6) 6 1000) (Gq (fun _=>0) 0 2) 0 0 ([]) ([]) 1).2.2.2.1) ((GT (Gq (Gq (Gq (Gq (Gq (Gq (Gq (fun _=>0) 0 2) 1 (bI false)) 2 5) 3 3) 4 40) 5 6) 6 1000) (Gq (fun _=>0) 0 2) 0 0 ([]) ([]) 1).2.2.2.2.1) 1 (Gq (fun _=>0) 0 3) 4).2.2.2.2) 0 ((GT (Gq (Gq (Gq (Gq (Gq (Gq (Gq (fun _=>0) 0 2) 1 (bI false)) 2 5) 3 3) 4 40) 5 6) 6 1000) (Gq (fun _=>0) 0 2) 0 0 ([]) ([]) 1).2.2.1) ((Ih (Gq (Gq (Gq (Gq (Gq (Gq (Gq (fun _=>0) 0 2) 1 (bI false)) 2 5) 3 3) 4 40) 5 6) 6 1000) ((GT (Gq (Gq (Gq (Gq (Gq (Gq (Gq (fun _=>0) 0 2) 1 (bI false)) 2 5) 3 3) 4 40) 5 6) 6 1000) (Gq (fun _=>0) 0 2) 0 0 ([]) ([]) 1).2.2.2.2.2) 0 ((GT (Gq (Gq (Gq (Gq (Gq (Gq (Gq (fun _=>0) 0 2) 1 (bI false)) 2 5) 3 3) 4 40) 5 6) 6 1000) (Gq (fun _=>0) 0 2) 0 0 ([]) ([]) 1).2.2.1) ((GT (Gq (Gq (Gq (Gq (Gq (Gq (Gq (fun _=>0) 0 2) 1 (bI false)) 2 5) 3 3) 4 40) 5 6) 6 1000) (Gq (fun _=>0) 0 2) 0 0 ([]) ([]) 1).2.2.2.1) ((GT (Gq (Gq (Gq (Gq (Gq (Gq (Gq (fun _=>0) 0 2) 1 (bI false)) 2 5) 3 3) 4 40) 5 6) 6 1000) (Gq (fun _=>0) 0 2) 0 0 ([]) ([]) 1).2.2.2.2.1) 1 (Gq (fun _=>0) 0 3) 4).2.2.1) ((Ih (Gq (Gq (Gq (Gq (Gq (Gq (Gq (fun _=>0) 0 2) 1 (bI false)) 2 5) 3 3) 4 40) 5 6) 6 1000) ((GT (Gq (Gq (Gq (Gq (Gq (Gq (Gq (fun _=>0) 0 2) 1 (bI false)) 2 5) 3 3) 4 40) 5 6) 6 1000) (Gq (fun _=>0) 0 2) 0 0 ([]) ([]) 1).2.2.2.2.2) 0 ((GT (Gq (Gq (Gq (Gq (Gq (Gq (Gq (fun _=>0) 0 2) 1 (bI false)) 2 5) 3 3) 4 40) 5 6) 6 1000) (Gq (fun _=>0) 0 2) 0 0 ([]) ([]) 1).2.2.1) ((GT (Gq (Gq (Gq (Gq (Gq (Gq (Gq (fun _=>0) 0 2) 1 (bI false)) 2 5) 3 3) 4 40) 5 6) 6 1000) (Gq (fun _=>0) 0 2) 0 0 ([]) ([]) 1).2.2.2.1) ((GT (Gq (Gq (Gq (Gq (Gq (Gq (Gq (fun _=>0) 0 2) 1 (bI false)) 2 5) 3 3) 4 40) 5 6) 6 1000) (Gq (fun _=>0) 0 2) 0 0 ([]) ([]) 1).2.2.2.2.1) 1 (Gq (fun _=>0) 0 3) 4).2.2.2.1) 1).2.1))=8))
          else
           r=(false))
         else
          r=(false)
        else
         r=(false)
       else
        r=(false))))
      else
       r=(false)
     else
      r=(false)
    else
     r=(false)
   else
    r=(false)
  else
   r=(false)
 else
  r=(false)
end Go.E
namespace Go.E
open Go
structure Inv16 (n:Int) (c:Nat->Int):Prop where
 n1:1<=n/\n<=8
 c0:c 0=n
 tx:∀ j,j<9->0<=c (1+j*3)/\c (1+j*3)<=1048576
 si:∀ j,j<9->0<=c (1+(j*3+1))/\c (1+(j*3+1))<=1099511627776
 out:∀ j:Nat,j<9->(j=0∨n<j)->c (1+j*3)=0/\nz (c (1+(j*3+2)))=false
 one:∀ i j:Nat,i<9->j<9->c (1+i*3)=c (1+j*3)->c (1+i*3)≠0->i=j
theorem Inv16.start {n:Int} (h:1<=n/\n<=8):Inv16 n (Gq (fun _=>0) 0 n):=by
 have e:∀ k,(Gq (fun _=>0) 0 n) (1+k)=0:=fun k=>Af Aa
 exact⟨h,rfl,fun j _=>by rw[e];omega,fun j _=>by rw[e];omega,fun j _ _=>by rw[e,e];exact⟨rfl,rfl⟩,fun i j _ _ _ h=>absurd (e _) h⟩
theorem TC {c:Nat->Int} {k j:Nat} {x:Int}:Gq c (1+k*3) x (1+j*3)=if j=k then x else c (1+j*3):=by
 by_cases h:j=k
 .subst h;rw[Ae rfl];exact Ae rfl
 .rw[Af h];exact Af Aa
theorem AhL {c:Nat->Int} {k j:Nat} {x:Int}:Gq c (1+k*3) x (1+(j*3+1))=c (1+(j*3+1)):=Af Aa
theorem AhK {c:Nat->Int} {k j:Nat} {x:Int}:Gq c (1+k*3) x (1+(j*3+2))=c (1+(j*3+2)):=Af Aa
theorem Ai3 {c:Nat->Int} {k:Nat} {x:Int}:Gq c (1+k) x 0=c 0:=Af Aa
theorem Inv16.put {n:Int} {c:Nat->Int} (h:Inv16 n c) {k:Nat} {x:Int} (hk:1<=k/\(k:Int)<=n) (hx:0<=x/\x<=1048576) (hno:x≠0->∀ j:Nat,1<=j->j<9->c (1+j*3)≠x):Inv16 n (Gq c (1+k*3) x):=by
 have y7:=h.n1
 refine⟨h.n1,by rw[Ai3,h.c0],fun j hj=>?_,fun j hj=>by rw[AhL];exact h.si j hj,fun j hj ho=>?_,fun i j hi hj he hne=>?_⟩
 .rw[TC];split
  .exact hx
  .exact h.tx j hj
 .rw[TC,AhK,Af Aa];exact h.out j hj ho
 .rw[TC,TC] at he
  rw[TC] at hne
  have h0:=(h.out 0 Aa (.inl rfl)).1
  by_cases hik:i=k
  .by_cases hjk:j=k
   .omega
   .rw[Ae hik,Af hjk] at he
    rw[Ae hik] at hne
    by_cases Fg:j=0
    .subst Fg;rw[h0] at he;exact absurd he hne
    .exact absurd he.symm (hno hne j Aa hj)
  .rw[Af hik] at he hne
   by_cases hjk:j=k
   .rw[Ae hjk] at he
    rw[he] at hne
    by_cases tu:i=0
    .subst tu;rw[h0] at he;exact absurd he.symm hne
    .exact absurd he (hno hne i Aa hi)
   .rw[Af hjk] at he
    exact h.one i j hi hj he hne
def M9 (c:Nat->Int) (k:Nat) (now:Int):Nat->Int:=Gq (Gq c ((1+k*3)+2) (bI true)) ((1+k*3)+1) now
theorem O1 {c:Nat->Int} {k j:Nat} {now:Int}:M9 c k now (1+j*3)=c (1+j*3):=(Af Aa).trans (Af Aa)
theorem AeD {c:Nat->Int} {k j:Nat} {now:Int}:M9 c k now (1+(j*3+1))=if j=k then now else c (1+(j*3+1)):=by
 by_cases h:j=k
 .subst h;rw[Ae rfl];exact Ae Aa
 .rw[Af h];exact(Af Aa).trans (Af Aa)
theorem AeC {c:Nat->Int} {k j:Nat} {now:Int}:M9 c k now (1+(j*3+2))=if j=k then 1 else c (1+(j*3+2)):=by
 by_cases h:j=k
 .subst h;rw[Ae rfl];exact(Af Aa).trans (Ae Aa)
 .rw[Af h];exact(Af Aa).trans (Af Aa)
theorem Ahq {c:Nat->Int} {k:Nat} {now:Int}:M9 c k now 0=c 0:=by
 show(if 0=(1+k*3)+1 then now else if 0=(1+k*3)+2 then bI true else c 0)=c 0
 rw[Af Aa,Af Aa]
theorem Inv16.dead {n:Int} {c:Nat->Int} (h:Inv16 n c) {k:Nat} {now:Int} (hk:1<=k/\(k:Int)<=n) (hx:0<=now/\now<=1099511627776):Inv16 n (M9 c k now):=by
 refine⟨h.n1,?_,fun j hj=>by rw[O1];exact h.tx j hj,fun j hj=>?_,fun j hj ho=>?_,fun i j hi hj he hne=>?_⟩
 .rw[Ahq,h.c0]
 .rw[AeD];split
  .exact hx
  .exact h.si j hj
 .rw[O1,AeC,Af Aa];exact h.out j hj ho
 .rw[O1,O1] at he
  rw[O1] at hne
  exact h.one i j hi hj he hne
theorem Inv16.of {n:Int} {c:Nat->Int} (h:Inv16 n c) (tx:Int):(L9 c tx=0/\∀ j:Nat,j<9->1<=tx->c (1+j*3)≠tx)∨∃ j:Nat,L9 c tx=j/\(1<=j/\(j:Int)<=n)/\1<=tx/\c (1+j*3)=tx:=by
 rcases AcG c tx with ⟨h1,h2⟩ | ⟨j,h1,h2,h3,h4,h5⟩
 .refine .inl ⟨h1,fun j hj h4=>?_⟩
  by_cases h0:j=0
  .subst h0;rw[(h.out 0 Aa (.inl rfl)).1];omega
  .exact h2 j Aa Aa h4
 .refine .inr ⟨j,h1,⟨h2,?_⟩,h4,h5⟩
  rcases Int.lt_or_le n j with h6 | h6
  .rw[(h.out j Aa (.inr h6)).1] at h5;omega
  .exact h6
theorem Aao (c:Nat->Int) (tx:Int):(Kg c tx).1=L9 c tx/\(Kg c tx).2=if L9 c tx=0 then 10 else 0:=by
 unfold Kg
 split
 .rename_i h;exact⟨h.symm,rfl⟩
 .exact⟨rfl,rfl⟩
theorem Y5 {n:Int} {c:Nat->Int} (h:Inv16 n c) (id tx:Int):LZ c id tx/\Jb c id tx=if id<1∨n<id then(10,c) else if tx<1∨1048576<tx then(1,c) else if nz (c (1+(id.toNat*3+2)))=true then(11,c) else if c (1+id.toNat*3)=0 then(if L9 c tx=0 then(0,Gq c (1+id.toNat*3) tx) else(15,c)) else(8,c):=by
 have hn:=h.n1
 unfold LZ Jb
 rw[h.c0,(Aao c tx).2]
 simp only[Bool.or_eq_true,decide_eq_true_eq,Nat.add_assoc]
 by_cases h1:id<1∨n<id
 .rw[Ae h1,Ae h1,Ae h1];exact⟨trivial,rfl⟩
 .rw[Af h1,Af h1,Af h1]
  refine⟨⟨⟨Aa,Aa⟩,?_⟩,?_⟩
  .split
   .trivial
   .split
    .trivial
    .split
     .refine⟨by unfold LD;decide,?_⟩
      split <;> trivial
     .trivial
  .split
   .rfl
   .split
    .rfl
    .split
     .unfold LF
      by_cases hc:L9 c tx=0
      .rw[Ae hc,Ae hc,Ae Ab]
      .rw[Af hc,Af hc,Af Ab]
     .rfl
theorem Aho {n:Int} {c:Nat->Int} (h:Inv16 n c) (tx:Int):O4 c tx/\PY c tx=if L9 c tx=0 then(10,c) else(0,Gq c (1+(L9 c tx).toNat*3) 0):=by
 obtain⟨e1,e2⟩:=Aao c tx
 have hn:=h.n1
 unfold O4 PY
 rw[e1,e2]
 rcases h.of tx with ⟨h1,_⟩ | ⟨j,h1,h2,_⟩
 .rw[Ae h1,Ae h1,Af Ab,Af Ab];exact⟨trivial,rfl⟩
 .have:¬ L9 c tx=0:=Aa
  rw[Af this,Af this,Ae rfl,Ae rfl]
  exact⟨⟨⟨Aa,Aa⟩,trivial⟩,rfl⟩
theorem AeE {n:Int} {c:Nat->Int} (h:Inv16 n c) (id now:Int):Na c id now/\PZ c id now=if id<1∨n<id then(10,c) else if now<0∨1099511627776<now then(1,c) else if nz (c (1+(id.toNat*3+2)))=true then(11,c) else(0,M9 c id.toNat now):=by
 have hn:=h.n1
 unfold Na PZ
 rw[h.c0]
 simp only[Bool.or_eq_true,decide_eq_true_eq,Nat.add_assoc]
 by_cases h1:id<1∨n<id
 .rw[Ae h1,Ae h1,Ae h1];exact⟨trivial,rfl⟩
 .rw[Af h1,Af h1,Af h1]
  refine⟨⟨⟨Aa,Aa⟩,?_⟩,?_⟩
  .split
   .trivial
   .split <;> trivial
  .split
   .rfl
   .split
    .rfl
    .unfold M9
     simp only[Nat.add_assoc]
theorem Inv16.toN {n:Int} {c:Nat->Int} (h:Inv16 n c) {id:Int} (hi:¬ (id<1∨n<id)):(1<=id.toNat/\(id.toNat:Int)<=n)/\(id.toNat:Int)=id:=Aa
end Go.E
namespace Go.E
open Go
structure KS where
 cl:Nat->Int
 ti:Int
 la:Int
 m:TM
 tr:LM
def evS (t:TT):LM:=
 if t.2.1=2 then [Gq (Gq (fun _=>0) 0 5) 2 t.1] else if t.2.1=4 then [Gq (Gq (Gq (fun _=>0) 0 7) 2 t.1) 6 t.2.2.1] else if t.2.1=3 then [Gq (Gq (fun _=>0) 0 6) 2 t.1] else []
def Vv (c:Nat->Int) (tx:Int):Nat->Int:=if L9 c tx=0 then c else Gq c (1+(L9 c tx).toNat*3) 0
def Jq (s:KS) (t:TT):KS:=
 if(GU s.m t.1).2.1=t.2.1 then {s with m:=IH HT s.m t.1 t}
 else {s with m:=IH HT s.m t.1 t,tr:=s.tr++evS t,cl:=if t.2.1=3∨t.2.1=4 then Vv s.cl t.1 else s.cl}
structure KI (N:Int) (n:Nat) (s:KS):Prop where
 hc:Inv16 N s.cl
 ht:0<=s.ti/\s.ti<=n
 hl:0<=s.la/\s.la<=n
 hu:AcR s.m
 hk:∀ k,KZ HT s.m k=true↔1<=k/\k<=s.la
 hT:∀ k,1<=k->k<=s.la->TIT n (GU s.m k)/\(GU s.m k).1=k
 hb:∀ j,j<9->s.cl (1+j*3)≠0->1<=s.cl (1+j*3)/\s.cl (1+j*3)<=s.la/\(GU s.m (s.cl (1+j*3))).2.1<=2
 hr:s.tr.length<=2*n
theorem KI.start {N:Int} (h:1<=N/\N<=8):KI N 0 ⟨Gq (fun _=>0) 0 N,0,0,[],[]⟩ where
 hc:=Inv16.start h
 ht:=by exact⟨Int.le_refl _,Int.le_refl _⟩
 hl:=by exact⟨Int.le_refl _,Int.le_refl _⟩
 hu:=List.nodup_nil
 hk:=fun k=>⟨fun h=>(by cases h),fun h=>by have:1<=k/\k<=0:=h;omega⟩
 hT:=fun k h1 h2=>by have:k<=0:=h2;omega
 hb:=fun j _ hne=>absurd (Af Aa) hne
 hr:=Nat.le_refl _
theorem MG (m:TM) (k:Int) (t:TT) (k':Int):GU (IH HT m k t) k'=if k'=k then t else GU m k':=by
 unfold GU
 rw[Ach XF]
 simp[HT]
theorem TIT.mono {n m:Nat} {t:T17} (h:TIT n t) (hm:n<=m):TIT m t:=TI.mono h hm
theorem KI.mono {N:Int} {n m:Nat} {s:KS} (h:KI N n s) (hm:n<=m):KI N m s where
 hc:=h.hc
 ht:=by have:=h.ht;omega
 hl:=by have:=h.hl;omega
 hu:=h.hu
 hk:=h.hk
 hT:=fun k h1 h2=>⟨(h.hT k h1 h2).1.mono hm,(h.hT k h1 h2).2⟩
 hb:=h.hb
 hr:=by have:=h.hr;omega
theorem Abo (t:TT):(evS t).length<=1:=by
 unfold evS
 split
 .exact Nat.le_refl _
 .split
  .exact Nat.le_refl _
  .split
   .exact Nat.le_refl _
   .exact Nat.zero_le _
theorem AfN {N:Int} {c:Nat->Int} (h:Inv16 N c) (tx:Int):O4 c tx/\(PY c tx).2=Vv c tx:=by
 obtain⟨h1,h2⟩:=Aho h tx
 refine⟨h1,?_⟩
 rw[h2]
 unfold Vv
 split <;> rfl
theorem YY {N:Int} {c:Nat->Int} (h:Inv16 N c) (tx:Int):Inv16 N (Vv c tx):=by
 unfold Vv
 rcases h.of tx with ⟨h2,_⟩ | ⟨j,h2,h3,_⟩
 .rw[Ae h2];exact h
 .rw[Af Aa,h2,Int.toNat_natCast]
  exact h.put h3 Aa fun h=>absurd rfl h
theorem AfM {N:Int} {c:Nat->Int} (h:Inv16 N c) {tx:Int} (ht:1<=tx) {j:Nat} (hj:j<9):Vv c tx (1+j*3)=if c (1+j*3)=tx then 0 else c (1+j*3):=by
 unfold Vv
 rcases h.of tx with ⟨h2,h3⟩ | ⟨i,h2,h3,_,h4⟩
 .rw[Ae h2,Af (h3 j hj ht)]
 .rw[Af Aa,h2,Int.toNat_natCast,TC]
  have hn:=h.n1
  by_cases e:j=i
  .subst e;rw[Ae rfl,Ae h4]
  .rw[Af e,Af]
   intro h5
   exact e (h.one j i hj Aa (h5.trans h4.symm) Aa)
section
variable {N:Int} {n:Nat} {s:KS}
theorem KI.put (h:KI N n s) {t:TT} (ht:TIT (n+1) t) (h1:1<=t.1) (h2:t.1<=s.la):KI N (n+1) (Jq s t):=by
 have hs:=ht.hst
 have key:∀ (tr:LM) (cl:Nat->Int),Inv16 N cl->tr.length<=2*(n+1)->(∀ j,j<9->cl (1+j*3)≠0->cl (1+j*3)=s.cl (1+j*3)/\(cl (1+j*3)=t.1->t.2.1<=2))->KI N (n+1) {s with m:=IH HT s.m t.1 t,tr:=tr,cl:=cl}:=by
  intro tr cl hc hr hb
  refine⟨hc,?_,?_,V5 h.hu _ _,fun k=>?_,fun k k1 k2=>?_,fun j hj hne=>?_,hr⟩
  .have:=h.ht;show 0<=s.ti/\s.ti<=_;omega
  .have:=h.hl;show 0<=s.la/\s.la<=_;omega
  .show KZ HT (IH HT s.m t.1 t) k=true↔1<=k/\k<=s.la
   rw[Wl XF,Bool.or_eq_true,h.hk]
   simp[HT]
   omega
  .show TIT _ (GU (IH HT s.m t.1 t) k)/\(GU (IH HT s.m t.1 t) k).1=k
   rw[MG]
   by_cases e:k=t.1
   .rw[Ae e];exact⟨ht,e.symm⟩
   .rw[Af e];exact⟨(h.hT k k1 k2).1.mono Aa,(h.hT k k1 k2).2⟩
  .obtain⟨e1,e2⟩:=hb j hj hne
   have hne':cl (1+j*3)≠0:=hne
   obtain⟨b1,b2,b3⟩:=h.hb j hj (e1▸hne')
   show 1<=cl (1+j*3)/\cl (1+j*3)<=s.la/\(GU (IH HT s.m t.1 t) (cl (1+j*3))).2.1<=2
   rw[MG]
   by_cases e:cl (1+j*3)=t.1
   .rw[Ae e];exact⟨Aa,Aa,e2 e⟩
   .rw[Af e,e1];exact⟨b1,b2,b3⟩
 have hr:=h.hr
 unfold Jq
 by_cases he:(GU s.m t.1).2.1=t.2.1
 .rw[Ae he]
  refine key s.tr s.cl h.hc Aa fun j hj hne=>⟨rfl,fun e=>?_⟩
  have:=(h.hb j hj hne).2.2
  rw[e] at this
  omega
 .rw[Af he]
  have hl:=Abo t
  have hr':(s.tr++evS t).length<=2*(n+1):=by rw[List.length_append];omega
  by_cases EN:t.2.1=3∨t.2.1=4
  .rw[Ae EN]
   refine key _ _ (YY h.hc _) hr' fun j hj hne=>?_
   rw[AfM h.hc h1 hj] at hne ⊢
   by_cases e:s.cl (1+j*3)=t.1
   .rw[Ae e] at hne;exact absurd rfl hne
   .rw[Af e];exact⟨rfl,fun h=>absurd h e⟩
  .rw[Af EN]
   refine key _ _ h.hc hr' fun j hj hne=>⟨rfl,fun _=>by have:1<=t.2.1/\t.2.1<=4:=hs;omega⟩
theorem Aa8 (h:KI N n s) (hn:n<=100000) (c:Nat->Int) (t:TT) (extra:LM) (hx:extra.length<=1) :
  IZ c s.cl s.ti s.la s.m (s.tr++extra) t.1 t.2.1 t.2.2.1 t.2.2.2.1 t.2.2.2.2.1 t.2.2.2.2.2.1 t.2.2.2.2.2.2.1 t.2.2.2.2.2.2.2.1 t.2.2.2.2.2.2.2.2.1 t.2.2.2.2.2.2.2.2.2.1 t.2.2.2.2.2.2.2.2.2.2.1 t.2.2.2.2.2.2.2.2.2.2.2 /\
  Hq c s.cl s.ti s.la s.m (s.tr++extra) t.1 t.2.1 t.2.2.1 t.2.2.2.1 t.2.2.2.2.1 t.2.2.2.2.2.1 t.2.2.2.2.2.2.1 t.2.2.2.2.2.2.2.1 t.2.2.2.2.2.2.2.2.1 t.2.2.2.2.2.2.2.2.2.1 t.2.2.2.2.2.2.2.2.2.2.1 t.2.2.2.2.2.2.2.2.2.2.2 =
   ((Jq {s with tr:=s.tr++extra} t).m,(Jq {s with tr:=s.tr++extra} t).tr,(Jq {s with tr:=s.tr++extra} t).cl):=by
 have hr:=h.hr
 obtain⟨e1,e2⟩:=AfN h.hc t.1
 have hb:(((s.tr++extra).length:Int)+1)*56<=140737488355328:=by rw[List.length_append];omega
 have e0:(H5 HT s.m t.1 (0,0,0,0,false,0,(fun _=>0),0,[],[],[],[]))=GU s.m t.1:=rfl
 unfold IZ Hq Jq evS
 rw[e0]
 by_cases he:(GU s.m t.1).2.1=t.2.1
 .rw[Ae he,Ae he,Ae he];exact⟨trivial,rfl⟩
 .rw[Af he,Af he,Af he]
  by_cases h2:t.2.1=2
  .rw[Ae h2,Ae h2,Ae h2,Af Aa];exact⟨⟨Aa,trivial⟩,rfl⟩
  .rw[Af h2,Af h2,Af h2]
   by_cases h4:t.2.1=4
   .rw[Ae h4,Ae h4,Ae h4,Ae (.inr h4),e2];exact⟨⟨Aa,e1,trivial⟩,rfl⟩
   .rw[Af h4,Af h4,Af h4]
    by_cases h3:t.2.1=3
    .rw[Ae h3,Ae h3,Ae h3,Ae (.inl h3),e2];exact⟨⟨Aa,e1,trivial⟩,rfl⟩
    .rw[Af h3,Af h3,Af h3,Af Aa,List.append_nil];exact⟨trivial,rfl⟩
end
end Go.E
