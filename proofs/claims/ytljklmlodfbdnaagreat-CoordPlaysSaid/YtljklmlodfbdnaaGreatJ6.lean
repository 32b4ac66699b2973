/- Part 6 of the proof. -/
import Derived.Test.YtljklmlodfbdnaaGreatJ5
import Derived.Test.YtljklmlodfbdnaaGreatJ3
set_option maxHeartbeats 1000000
set_option maxRecDepth 100000
set_option linter.unusedVariables false
set_option linter.unusedSimpArgs false
set_option linter.unusedSectionVars false
set_option linter.unnecessarySimpa false
namespace Go.E
open Go
def Hv (bQ:NI) (aU:LM) (bt:Int) (aV:(List UT)) (bo:LM) (cm bM bO dE:Int) (cK:Bool) (cw:Int) (fB:NI) (cL:Int) (bW cu cM:(List Int)) (dG:LM):LM×(List UT)×LM:=
 if(aV[(cm-1).toNat]!).2.1=bM then
  (aU,aV.set ((cm-1).toNat) (cm,bM,bO,dE,cK,cw,fB,cL,bW,cu,cM,dG),bo)
 else
  if 2<bM then
   if(Jo aU cm)=0 then
    (aU,aV.set ((cm-1).toNat) (cm,bM,bO,dE,cK,cw,fB,cL,bW,cu,cM,dG),(bo++[(Gq (Gq (Gq (fun _=>0) 0 (3+bM)) 2 cm) 6 bO)]))
   else
    (([]++aU).set (((Jo aU cm)-1).toNat) ((Gq (aU[((Jo aU cm)-1).toNat]!) 0 0)),aV.set ((cm-1).toNat) (cm,bM,bO,dE,cK,cw,fB,cL,bW,cu,cM,dG),(bo++[(Gq (Gq (Gq (fun _=>0) 0 (3+bM)) 2 cm) 6 bO)]))
  else
   (aU,aV.set ((cm-1).toNat) (cm,bM,bO,dE,cK,cw,fB,cL,bW,cu,cM,dG),(bo++[(Gq (Gq (Gq (fun _=>0) 0 (3+bM)) 2 cm) 6 bO)]))
def Jt (bQ:NI) (aU:LM) (bt:Int) (aV:(List UT)) (bo:LM) (cm bM bO dE:Int) (cK:Bool) (cw:Int) (fB:NI) (cL:Int) (bW cu cM:(List Int)) (dG:LM) (k:(LM×(List UT)×LM)->Prop:=fun _=>True):Prop:=
 (GN (cm-1))/\(
 (0<=cm-1/\cm-1<aV.length)/\(
 (GN (cm-1))/\(
 (0<=cm-1/\cm-1<aV.length)/\(
 if(aV[(cm-1).toNat]!).2.1=bM then
  k ((aU,aV.set ((cm-1).toNat) (cm,bM,bO,dE,cK,cw,fB,cL,bW,cu,cM,dG),bo))
 else
  (GN (3+bM))/\(
  ((bo.length+1)*56<=140737488355328)/\(
  if 2<bM then
   (UO aU cm)/\(
   if(Jo aU cm)=0 then
    k ((aU,aV.set ((cm-1).toNat) (cm,bM,bO,dE,cK,cw,fB,cL,bW,cu,cM,dG),(bo++[(Gq (Gq (Gq (fun _=>0) 0 (3+bM)) 2 cm) 6 bO)])))
   else
    (GN ((Jo aU cm)-1))/\(
    (0<=(Jo aU cm)-1/\(Jo aU cm)-1<aU.length)/\(
    ((0+aU.length)*24<=140737488355328)/\(
    (GN ((Jo aU cm)-1))/\(
    (0<=(Jo aU cm)-1/\(Jo aU cm)-1<([]++aU).length)/\(
    k ((([]++aU).set (((Jo aU cm)-1).toNat) ((Gq (aU[((Jo aU cm)-1).toNat]!) 0 0)),aV.set ((cm-1).toNat) (cm,bM,bO,dE,cK,cw,fB,cL,bW,cu,cM,dG),(bo++[(Gq (Gq (Gq (fun _=>0) 0 (3+bM)) 2 cm) 6 bO)])))))))))
  else
   k ((aU,aV.set ((cm-1).toNat) (cm,bM,bO,dE,cK,cw,fB,cL,bW,cu,cM,dG),(bo++[(Gq (Gq (Gq (fun _=>0) 0 (3+bM)) 2 cm) 6 bO)])))))))))
theorem Og {bQ aU bt aV bo cm bM bO dE cK cw fB cL bW cu cM dG} (hP:Jt bQ aU bt aV bo cm bM bO dE cK cw fB cL bW cu cM dG):Jt bQ aU bt aV bo cm bM bO dE cK cw fB cL bW cu cM dG (Eq (Hv bQ aU bt aV bo cm bM bO dE cK cw fB cL bW cu cM dG)):=Pc hP
def L3 (bQ:NI) (aU:LM) (bt:Int) (aV:(List UT)) (bo:LM) (bv:Int):Int:=
 if((decide (bv<1))||(decide ((aU.length:Int)<bv)))=true then
  10
 else
  if((nz ((aU[(bv-1).toNat]!) 1)))=true then
   11
  else
   0
def Ok (bQ:NI) (aU:LM) (bt:Int) (aV:(List UT)) (bo:LM) (bv:Int) (k:(Int)->Prop:=fun _=>True):Prop:=
 if((decide (bv<1))||(decide ((aU.length:Int)<bv)))=true then
  k (10)
 else
  (GN (bv-1))/\(
  (0<=bv-1/\bv-1<aU.length)/\(
  if((nz ((aU[(bv-1).toNat]!) 1)))=true then
   k (11)
  else
   k (0)))
theorem AaF {bQ aU bt aV bo bv} (hP:Ok bQ aU bt aV bo bv):Ok bQ aU bt aV bo bv (Eq (L3 bQ aU bt aV bo bv)):=Pc hP
def IG (bQ:NI) (aU:LM) (bt:Int) (aV:(List UT)) (bo:LM) (bZ:Int):Int:=
 if((decide (bZ<1))||(decide ((aV.length:Int)<bZ)))=true then
  0
 else
  (aV[(bZ-1).toNat]!).2.1
def JX (bQ:NI) (aU:LM) (bt:Int) (aV:(List UT)) (bo:LM) (bZ:Int) (k:(Int)->Prop:=fun _=>True):Prop:=
 if((decide (bZ<1))||(decide ((aV.length:Int)<bZ)))=true then
  k (0)
 else
  (GN (bZ-1))/\(
  (0<=bZ-1/\bZ-1<aV.length)/\(
  k ((aV[(bZ-1).toNat]!).2.1)))
theorem Sm {bQ aU bt aV bo bZ} (hP:JX bQ aU bt aV bo bZ):JX bQ aU bt aV bo bZ (Eq (IG bQ aU bt aV bo bZ)):=Pc hP
def NO (aV:(List UT)) (bH:LM) (i4:Int) (o:(LM×Int) ⊕ (LM)):Prop:=
 if i4<(aV.length:Int) then
  (0<=i4/\i4<aV.length)/\(
  if((aV[i4.toNat]!).2.2.2.2.1)=true then
   (GN (i4+1))/\(
   (0<=i4/\i4<aV.length)/\(
   ((bH.length+1)*16<=140737488355328)/\(
   (GN (i4+1))/\(
   o=(.inl ((bH++[(Gq (Gq (fun _=>0) 0 (i4+1)) 1 ((aV[i4.toNat]!).2.2.2.1))]),i4+1))))))
  else
   (GN (i4+1))/\(
   o=(.inl (bH,i4+1))))
 else
  o=(.inr bH)
def So (bH r:LM):Prop:=
 r=(bH)
def T2 (bQ:NI) (aU:LM) (bt:Int) (aV:(List UT)) (bo r:LM):Prop:=
 ∃ x:LM,Wh (fun(s:LM×Int) (o:(LM×Int) ⊕ (LM))=>NO aV s.1 s.2 o) (([],0):LM×Int) x/\So x r
def Zp (bQ:NI) (aU:LM) (bt:Int) (aV:(List UT)) (bo:LM) (m1:NI) (r:Int):Prop:=
 if((Pf m1))=true then
  if((!(decide (m1 2=0)))||(decide (bQ 0<m1 1)))=true then
   r=(1)
  else
   r=(0)
 else
  r=(5)
def Sq (bQ:NI) (aU:LM) (bt:Int) (aV:(List UT)) (bo:LM) (m1:NI):Int:=
 if((Pf m1))=true then
  if((!(decide (m1 2=0)))||(decide (bQ 0<m1 1)))=true then
   1
  else
   0
 else
  5
theorem Ae4 {bQ aU bt aV bo m1}:Zp bQ aU bt aV bo m1 (Sq bQ aU bt aV bo m1):=Tz
def Jw (bQ:NI) (aU:LM) (bt:Int) (aV:(List UT)) (bo:LM) (bv:Int):Int×Int×LM×(List UT)×LM:=
 if(L3 bQ aU bt aV bo bv)=0 then
  if 0<(aU[(bv-1).toNat]!) 0 then
   (0,8,aU,aV,bo)
  else
   if((decide (bv<1))||(decide ((aU.length:Int)<bv)))=true then
    ((aV.length:Int)+1,0,aU,(aV++[((aV.length:Int)+1,1,0,0,false,0,(fun _=>0),0,[],[],[],[])]),(bo++[(Gq (Gq (Gq (fun _=>0) 0 1) 1 bv) 2 ((aV.length:Int)+1))]))
   else
    if((decide ((aV.length:Int)+1<1))||(decide (1048576<(aV.length:Int)+1)))=true then
     ((aV.length:Int)+1,0,aU,(aV++[((aV.length:Int)+1,1,0,0,false,0,(fun _=>0),0,[],[],[],[])]),(bo++[(Gq (Gq (Gq (fun _=>0) 0 1) 1 bv) 2 ((aV.length:Int)+1))]))
    else
     if((nz ((aU[(bv-1).toNat]!) 1)))=true then
      ((aV.length:Int)+1,0,aU,(aV++[((aV.length:Int)+1,1,0,0,false,0,(fun _=>0),0,[],[],[],[])]),(bo++[(Gq (Gq (Gq (fun _=>0) 0 1) 1 bv) 2 ((aV.length:Int)+1))]))
     else
      if 0<(Jo aU ((aV.length:Int)+1)) then
       ((aV.length:Int)+1,0,aU,(aV++[((aV.length:Int)+1,1,0,0,false,0,(fun _=>0),0,[],[],[],[])]),(bo++[(Gq (Gq (Gq (fun _=>0) 0 1) 1 bv) 2 ((aV.length:Int)+1))]))
      else
       ((aV.length:Int)+1,0,([]++aU).set ((bv-1).toNat) ((Gq (aU[(bv-1).toNat]!) 0 ((aV.length:Int)+1))),(aV++[((aV.length:Int)+1,1,0,0,false,0,(fun _=>0),0,[],[],[],[])]),(bo++[(Gq (Gq (Gq (fun _=>0) 0 1) 1 bv) 2 ((aV.length:Int)+1))]))
 else
  (0,(L3 bQ aU bt aV bo bv),aU,aV,bo)
def MA (bQ:NI) (aU:LM) (bt:Int) (aV:(List UT)) (bo:LM) (bv:Int) (k:(Int×Int×LM×(List UT)×LM)->Prop:=fun _=>True):Prop:=
 (Ok bQ aU bt aV bo bv)/\(
 if(L3 bQ aU bt aV bo bv)=0 then
  (GN (bv-1))/\(
  (0<=bv-1/\bv-1<aU.length)/\(
  if 0<(aU[(bv-1).toNat]!) 0 then
   k ((0,8,aU,aV,bo))
  else
   (GN ((aV.length:Int)+1))/\(
   if((decide (bv<1))||(decide ((aU.length:Int)<bv)))=true then
    ((aV.length+1)*168<=140737488355328)/\(
    ((bo.length+1)*56<=140737488355328)/\(
    k (((aV.length:Int)+1,0,aU,(aV++[((aV.length:Int)+1,1,0,0,false,0,(fun _=>0),0,[],[],[],[])]),(bo++[(Gq (Gq (Gq (fun _=>0) 0 1) 1 bv) 2 ((aV.length:Int)+1))])))))
   else
    if((decide ((aV.length:Int)+1<1))||(decide (1048576<(aV.length:Int)+1)))=true then
     ((aV.length+1)*168<=140737488355328)/\(
     ((bo.length+1)*56<=140737488355328)/\(
     k (((aV.length:Int)+1,0,aU,(aV++[((aV.length:Int)+1,1,0,0,false,0,(fun _=>0),0,[],[],[],[])]),(bo++[(Gq (Gq (Gq (fun _=>0) 0 1) 1 bv) 2 ((aV.length:Int)+1))])))))
    else
     (GN (bv-1))/\(
     (0<=bv-1/\bv-1<aU.length)/\(
     if((nz ((aU[(bv-1).toNat]!) 1)))=true then
      ((aV.length+1)*168<=140737488355328)/\(
      ((bo.length+1)*56<=140737488355328)/\(
      k (((aV.length:Int)+1,0,aU,(aV++[((aV.length:Int)+1,1,0,0,false,0,(fun _=>0),0,[],[],[],[])]),(bo++[(Gq (Gq (Gq (fun _=>0) 0 1) 1 bv) 2 ((aV.length:Int)+1))])))))
     else
      (UO aU ((aV.length:Int)+1))/\(
      if 0<(Jo aU ((aV.length:Int)+1)) then
       ((aV.length+1)*168<=140737488355328)/\(
       ((bo.length+1)*56<=140737488355328)/\(
       k (((aV.length:Int)+1,0,aU,(aV++[((aV.length:Int)+1,1,0,0,false,0,(fun _=>0),0,[],[],[],[])]),(bo++[(Gq (Gq (Gq (fun _=>0) 0 1) 1 bv) 2 ((aV.length:Int)+1))])))))
      else
       ((0+aU.length)*24<=140737488355328)/\(
       (GN (bv-1))/\(
       (0<=bv-1/\bv-1<([]++aU).length)/\(
       ((aV.length+1)*168<=140737488355328)/\(
       ((bo.length+1)*56<=140737488355328)/\(
       k (((aV.length:Int)+1,0,([]++aU).set ((bv-1).toNat) ((Gq (aU[(bv-1).toNat]!) 0 ((aV.length:Int)+1))),(aV++[((aV.length:Int)+1,1,0,0,false,0,(fun _=>0),0,[],[],[],[])]),(bo++[(Gq (Gq (Gq (fun _=>0) 0 1) 1 bv) 2 ((aV.length:Int)+1))]))))))))))))))
 else
  k ((0,(L3 bQ aU bt aV bo bv),aU,aV,bo)))
theorem AbP {bQ aU bt aV bo bv} (hP:MA bQ aU bt aV bo bv):MA bQ aU bt aV bo bv (Eq (Jw bQ aU bt aV bo bv)):=Pc hP
def Up (bQ:NI) (aU:LM) (bt:Int) (aV:(List UT)) (bo:LM) (bZ bR iO:Int) (r:LM×LM×(List UT)×LM):Prop:=
 (GN (bZ-1))/\(
 (0<=bZ-1/\bZ-1<aV.length)/\(
 if iO<(aV[(bZ-1).toNat]!).2.1 then
  r=(([],aU,aV,bo))
 else
  (Kk ((aV[(bZ-1).toNat]!).1) ((aV[(bZ-1).toNat]!).2.1) ((aV[(bZ-1).toNat]!).2.2.1) ((aV[(bZ-1).toNat]!).2.2.2.1) ((aV[(bZ-1).toNat]!).2.2.2.2.1) ((aV[(bZ-1).toNat]!).2.2.2.2.2.1) ((aV[(bZ-1).toNat]!).2.2.2.2.2.2.1) ((aV[(bZ-1).toNat]!).2.2.2.2.2.2.2.1) ((aV[(bZ-1).toNat]!).2.2.2.2.2.2.2.2.1) ((aV[(bZ-1).toNat]!).2.2.2.2.2.2.2.2.2.1) ((aV[(bZ-1).toNat]!).2.2.2.2.2.2.2.2.2.2.1) ((aV[(bZ-1).toNat]!).2.2.2.2.2.2.2.2.2.2.2) bR)/\(
  ∃ bT:UT×LM×Int,bT=(KX ((aV[(bZ-1).toNat]!).1) ((aV[(bZ-1).toNat]!).2.1) ((aV[(bZ-1).toNat]!).2.2.1) ((aV[(bZ-1).toNat]!).2.2.2.1) ((aV[(bZ-1).toNat]!).2.2.2.2.1) ((aV[(bZ-1).toNat]!).2.2.2.2.2.1) ((aV[(bZ-1).toNat]!).2.2.2.2.2.2.1) ((aV[(bZ-1).toNat]!).2.2.2.2.2.2.2.1) ((aV[(bZ-1).toNat]!).2.2.2.2.2.2.2.2.1) ((aV[(bZ-1).toNat]!).2.2.2.2.2.2.2.2.2.1) ((aV[(bZ-1).toNat]!).2.2.2.2.2.2.2.2.2.2.1) ((aV[(bZ-1).toNat]!).2.2.2.2.2.2.2.2.2.2.2) bR)/\(
  (Jt bQ aU bt aV bo bT.1.1 bT.1.2.1 bT.1.2.2.1 bT.1.2.2.2.1 bT.1.2.2.2.2.1 bT.1.2.2.2.2.2.1 bT.1.2.2.2.2.2.2.1 bT.1.2.2.2.2.2.2.2.1 bT.1.2.2.2.2.2.2.2.2.1 bT.1.2.2.2.2.2.2.2.2.2.1 bT.1.2.2.2.2.2.2.2.2.2.2.1 bT.1.2.2.2.2.2.2.2.2.2.2.2)/\(
  r=((bT.2.1,(Hv bQ aU bt aV bo bT.1.1 bT.1.2.1 bT.1.2.2.1 bT.1.2.2.2.1 bT.1.2.2.2.2.1 bT.1.2.2.2.2.2.1 bT.1.2.2.2.2.2.2.1 bT.1.2.2.2.2.2.2.2.1 bT.1.2.2.2.2.2.2.2.2.1 bT.1.2.2.2.2.2.2.2.2.2.1 bT.1.2.2.2.2.2.2.2.2.2.2.1 bT.1.2.2.2.2.2.2.2.2.2.2.2).1,(Hv bQ aU bt aV bo bT.1.1 bT.1.2.1 bT.1.2.2.1 bT.1.2.2.2.1 bT.1.2.2.2.2.1 bT.1.2.2.2.2.2.1 bT.1.2.2.2.2.2.2.1 bT.1.2.2.2.2.2.2.2.1 bT.1.2.2.2.2.2.2.2.2.1 bT.1.2.2.2.2.2.2.2.2.2.1 bT.1.2.2.2.2.2.2.2.2.2.2.1 bT.1.2.2.2.2.2.2.2.2.2.2.2).2.1,(Hv bQ aU bt aV bo bT.1.1 bT.1.2.1 bT.1.2.2.1 bT.1.2.2.2.1 bT.1.2.2.2.2.1 bT.1.2.2.2.2.2.1 bT.1.2.2.2.2.2.2.1 bT.1.2.2.2.2.2.2.2.1 bT.1.2.2.2.2.2.2.2.2.1 bT.1.2.2.2.2.2.2.2.2.2.1 bT.1.2.2.2.2.2.2.2.2.2.2.1 bT.1.2.2.2.2.2.2.2.2.2.2.2).2.2)))))))
def Hn (bQ:NI) (aU:LM) (bt:Int) (aV:(List UT)) (bo:LM) (bZ bR iO:Int):LM×LM×(List UT)×LM:=
 if iO<(aV[(bZ-1).toNat]!).2.1 then
  ([],aU,aV,bo)
 else
  (fun(bT:UT×LM×Int)=>
   (bT.2.1,(Hv bQ aU bt aV bo bT.1.1 bT.1.2.1 bT.1.2.2.1 bT.1.2.2.2.1 bT.1.2.2.2.2.1 bT.1.2.2.2.2.2.1 bT.1.2.2.2.2.2.2.1 bT.1.2.2.2.2.2.2.2.1 bT.1.2.2.2.2.2.2.2.2.1 bT.1.2.2.2.2.2.2.2.2.2.1 bT.1.2.2.2.2.2.2.2.2.2.2.1 bT.1.2.2.2.2.2.2.2.2.2.2.2).1,(Hv bQ aU bt aV bo bT.1.1 bT.1.2.1 bT.1.2.2.1 bT.1.2.2.2.1 bT.1.2.2.2.2.1 bT.1.2.2.2.2.2.1 bT.1.2.2.2.2.2.2.1 bT.1.2.2.2.2.2.2.2.1 bT.1.2.2.2.2.2.2.2.2.1 bT.1.2.2.2.2.2.2.2.2.2.1 bT.1.2.2.2.2.2.2.2.2.2.2.1 bT.1.2.2.2.2.2.2.2.2.2.2.2).2.1,(Hv bQ aU bt aV bo bT.1.1 bT.1.2.1 bT.1.2.2.1 bT.1.2.2.2.1 bT.1.2.2.2.2.1 bT.1.2.2.2.2.2.1 bT.1.2.2.2.2.2.2.1 bT.1.2.2.2.2.2.2.2.1 bT.1.2.2.2.2.2.2.2.2.1 bT.1.2.2.2.2.2.2.2.2.2.1 bT.1.2.2.2.2.2.2.2.2.2.2.1 bT.1.2.2.2.2.2.2.2.2.2.2.2).2.2)) ((KX ((aV[(bZ-1).toNat]!).1) ((aV[(bZ-1).toNat]!).2.1) ((aV[(bZ-1).toNat]!).2.2.1) ((aV[(bZ-1).toNat]!).2.2.2.1) ((aV[(bZ-1).toNat]!).2.2.2.2.1) ((aV[(bZ-1).toNat]!).2.2.2.2.2.1) ((aV[(bZ-1).toNat]!).2.2.2.2.2.2.1) ((aV[(bZ-1).toNat]!).2.2.2.2.2.2.2.1) ((aV[(bZ-1).toNat]!).2.2.2.2.2.2.2.2.1) ((aV[(bZ-1).toNat]!).2.2.2.2.2.2.2.2.2.1) ((aV[(bZ-1).toNat]!).2.2.2.2.2.2.2.2.2.2.1) ((aV[(bZ-1).toNat]!).2.2.2.2.2.2.2.2.2.2.2) bR))
def KR (bQ:NI) (aU:LM) (bt:Int) (aV:(List UT)) (bo:LM) (bZ bR iO:Int):Prop:=
 (GN (bZ-1))/\(
 (0<=bZ-1/\bZ-1<aV.length)/\(
 if iO<(aV[(bZ-1).toNat]!).2.1 then
  True
 else
  (Kk ((aV[(bZ-1).toNat]!).1) ((aV[(bZ-1).toNat]!).2.1) ((aV[(bZ-1).toNat]!).2.2.1) ((aV[(bZ-1).toNat]!).2.2.2.1) ((aV[(bZ-1).toNat]!).2.2.2.2.1) ((aV[(bZ-1).toNat]!).2.2.2.2.2.1) ((aV[(bZ-1).toNat]!).2.2.2.2.2.2.1) ((aV[(bZ-1).toNat]!).2.2.2.2.2.2.2.1) ((aV[(bZ-1).toNat]!).2.2.2.2.2.2.2.2.1) ((aV[(bZ-1).toNat]!).2.2.2.2.2.2.2.2.2.1) ((aV[(bZ-1).toNat]!).2.2.2.2.2.2.2.2.2.2.1) ((aV[(bZ-1).toNat]!).2.2.2.2.2.2.2.2.2.2.2) bR)/\(
  (fun(bT:UT×LM×Int)=>
   (Jt bQ aU bt aV bo bT.1.1 bT.1.2.1 bT.1.2.2.1 bT.1.2.2.2.1 bT.1.2.2.2.2.1 bT.1.2.2.2.2.2.1 bT.1.2.2.2.2.2.2.1 bT.1.2.2.2.2.2.2.2.1 bT.1.2.2.2.2.2.2.2.2.1 bT.1.2.2.2.2.2.2.2.2.2.1 bT.1.2.2.2.2.2.2.2.2.2.2.1 bT.1.2.2.2.2.2.2.2.2.2.2.2)/\(
   True)) ((KX ((aV[(bZ-1).toNat]!).1) ((aV[(bZ-1).toNat]!).2.1) ((aV[(bZ-1).toNat]!).2.2.1) ((aV[(bZ-1).toNat]!).2.2.2.1) ((aV[(bZ-1).toNat]!).2.2.2.2.1) ((aV[(bZ-1).toNat]!).2.2.2.2.2.1) ((aV[(bZ-1).toNat]!).2.2.2.2.2.2.1) ((aV[(bZ-1).toNat]!).2.2.2.2.2.2.2.1) ((aV[(bZ-1).toNat]!).2.2.2.2.2.2.2.2.1) ((aV[(bZ-1).toNat]!).2.2.2.2.2.2.2.2.2.1) ((aV[(bZ-1).toNat]!).2.2.2.2.2.2.2.2.2.2.1) ((aV[(bZ-1).toNat]!).2.2.2.2.2.2.2.2.2.2.2) bR)))))
theorem P9 {bQ aU bt aV bo bZ bR iO} (hP:KR bQ aU bt aV bo bZ bR iO):Up bQ aU bt aV bo bZ bR iO (Hn bQ aU bt aV bo bZ bR iO):=OKW hP
def Ac6 (bQ:NI) (aU:LM) (bt:Int) (aV:(List UT)) (bo:LM) (cI bz:Int) (jw:NI) (m4:Int) (r:LM×Int×LM×(List UT)×LM):Prop:=
 (Ok bQ aU bt aV bo bz)/\(
 if(L3 bQ aU bt aV bo bz)=0 then
  if cI=3 then
   if((decide (bz<1))||(decide ((aU.length:Int)<bz)))=true then
    ((bo.length+1)*56<=140737488355328)/\(
    r=(([],0,aU,aV,(bo++[(Gq (Gq (fun _=>0) 0 8) 1 bz)]))))
   else
    if((Jr bt))=true then
     (GN (bz-1))/\(
     (0<=bz-1/\bz-1<aU.length)/\(
     if((nz ((aU[(bz-1).toNat]!) 1)))=true then
      ((bo.length+1)*56<=140737488355328)/\(
      r=(([],0,aU,aV,(bo++[(Gq (Gq (fun _=>0) 0 8) 1 bz)]))))
     else
      ((0+aU.length)*24<=140737488355328)/\(
      (GN (bz-1))/\(
      (0<=bz-1/\bz-1<([]++aU).length)/\(
      ((bo.length+1)*56<=140737488355328)/\(
      r=(([],0,([]++aU).set ((bz-1).toNat) ((Gq (Gq (aU[(bz-1).toNat]!) 1 (bI true)) 2 bt)),aV,(bo++[(Gq (Gq (fun _=>0) 0 8) 1 bz)])))))))))
    else
     ((bo.length+1)*56<=140737488355328)/\(
     r=(([],0,aU,aV,(bo++[(Gq (Gq (fun _=>0) 0 8) 1 bz)]))))
  else
   (GN (bz-1))/\(
   (0<=bz-1/\bz-1<aU.length)/\(
   if(aU[(bz-1).toNat]!) 0=0 then
    r=(([],10,aU,aV,bo))
   else
    (GN (((aU[(bz-1).toNat]!) 0)-1))/\(
    (0<=((aU[(bz-1).toNat]!) 0)-1/\((aU[(bz-1).toNat]!) 0)-1<aV.length)/\(
    if cI=0 then
     if((Iy jw))=true then
      (NW jw (bQ 0))/\(
      (Pz ((aV[(((aU[(bz-1).toNat]!) 0)-1).toNat]!).1) ((aV[(((aU[(bz-1).toNat]!) 0)-1).toNat]!).2.1) ((aV[(((aU[(bz-1).toNat]!) 0)-1).toNat]!).2.2.1) ((aV[(((aU[(bz-1).toNat]!) 0)-1).toNat]!).2.2.2.1) ((aV[(((aU[(bz-1).toNat]!) 0)-1).toNat]!).2.2.2.2.1) ((aV[(((aU[(bz-1).toNat]!) 0)-1).toNat]!).2.2.2.2.2.1) ((aV[(((aU[(bz-1).toNat]!) 0)-1).toNat]!).2.2.2.2.2.2.1) ((aV[(((aU[(bz-1).toNat]!) 0)-1).toNat]!).2.2.2.2.2.2.2.1) ((aV[(((aU[(bz-1).toNat]!) 0)-1).toNat]!).2.2.2.2.2.2.2.2.1) ((aV[(((aU[(bz-1).toNat]!) 0)-1).toNat]!).2.2.2.2.2.2.2.2.2.1) ((aV[(((aU[(bz-1).toNat]!) 0)-1).toNat]!).2.2.2.2.2.2.2.2.2.2.1) ((aV[(((aU[(bz-1).toNat]!) 0)-1).toNat]!).2.2.2.2.2.2.2.2.2.2.2) (H3 jw (bQ 0)) jw m4)/\(
      ∃ za:UT×LM×Int,za=(SS ((aV[(((aU[(bz-1).toNat]!) 0)-1).toNat]!).1) ((aV[(((aU[(bz-1).toNat]!) 0)-1).toNat]!).2.1) ((aV[(((aU[(bz-1).toNat]!) 0)-1).toNat]!).2.2.1) ((aV[(((aU[(bz-1).toNat]!) 0)-1).toNat]!).2.2.2.1) ((aV[(((aU[(bz-1).toNat]!) 0)-1).toNat]!).2.2.2.2.1) ((aV[(((aU[(bz-1).toNat]!) 0)-1).toNat]!).2.2.2.2.2.1) ((aV[(((aU[(bz-1).toNat]!) 0)-1).toNat]!).2.2.2.2.2.2.1) ((aV[(((aU[(bz-1).toNat]!) 0)-1).toNat]!).2.2.2.2.2.2.2.1) ((aV[(((aU[(bz-1).toNat]!) 0)-1).toNat]!).2.2.2.2.2.2.2.2.1) ((aV[(((aU[(bz-1).toNat]!) 0)-1).toNat]!).2.2.2.2.2.2.2.2.2.1) ((aV[(((aU[(bz-1).toNat]!) 0)-1).toNat]!).2.2.2.2.2.2.2.2.2.2.1) ((aV[(((aU[(bz-1).toNat]!) 0)-1).toNat]!).2.2.2.2.2.2.2.2.2.2.2) (H3 jw (bQ 0)) jw m4)/\(
      if za.2.2=0 then
       ((bo.length+1)*56<=140737488355328)/\(
       (Jt bQ aU bt aV (bo++[(Gq (GX (Gq (Gq (fun _=>0) 0 2) 2 ((aU[(bz-1).toNat]!) 0)) 3 2 jw) 5 m4)]) za.1.1 za.1.2.1 za.1.2.2.1 za.1.2.2.2.1 za.1.2.2.2.2.1 za.1.2.2.2.2.2.1 za.1.2.2.2.2.2.2.1 za.1.2.2.2.2.2.2.2.1 za.1.2.2.2.2.2.2.2.2.1 za.1.2.2.2.2.2.2.2.2.2.1 za.1.2.2.2.2.2.2.2.2.2.2.1 za.1.2.2.2.2.2.2.2.2.2.2.2)/\(
       r=((za.2.1,0,(Hv bQ aU bt aV (bo++[(Gq (GX (Gq (Gq (fun _=>0) 0 2) 2 ((aU[(bz-1).toNat]!) 0)) 3 2 jw) 5 m4)]) za.1.1 za.1.2.1 za.1.2.2.1 za.1.2.2.2.1 za.1.2.2.2.2.1 za.1.2.2.2.2.2.1 za.1.2.2.2.2.2.2.1 za.1.2.2.2.2.2.2.2.1 za.1.2.2.2.2.2.2.2.2.1 za.1.2.2.2.2.2.2.2.2.2.1 za.1.2.2.2.2.2.2.2.2.2.2.1 za.1.2.2.2.2.2.2.2.2.2.2.2).1,(Hv bQ aU bt aV (bo++[(Gq (GX (Gq (Gq (fun _=>0) 0 2) 2 ((aU[(bz-1).toNat]!) 0)) 3 2 jw) 5 m4)]) za.1.1 za.1.2.1 za.1.2.2.1 za.1.2.2.2.1 za.1.2.2.2.2.1 za.1.2.2.2.2.2.1 za.1.2.2.2.2.2.2.1 za.1.2.2.2.2.2.2.2.1 za.1.2.2.2.2.2.2.2.2.1 za.1.2.2.2.2.2.2.2.2.2.1 za.1.2.2.2.2.2.2.2.2.2.2.1 za.1.2.2.2.2.2.2.2.2.2.2.2).2.1,(Hv bQ aU bt aV (bo++[(Gq (GX (Gq (Gq (fun _=>0) 0 2) 2 ((aU[(bz-1).toNat]!) 0)) 3 2 jw) 5 m4)]) za.1.1 za.1.2.1 za.1.2.2.1 za.1.2.2.2.1 za.1.2.2.2.2.1 za.1.2.2.2.2.2.1 za.1.2.2.2.2.2.2.1 za.1.2.2.2.2.2.2.2.1 za.1.2.2.2.2.2.2.2.2.1 za.1.2.2.2.2.2.2.2.2.2.1 za.1.2.2.2.2.2.2.2.2.2.2.1 za.1.2.2.2.2.2.2.2.2.2.2.2).2.2))))
      else
       r=(([],za.2.2,aU,aV,bo)))))
     else
      r=(([],1,aU,aV,bo))
    else
     if cI=1 then
      (KH ((aV[(((aU[(bz-1).toNat]!) 0)-1).toNat]!).1) ((aV[(((aU[(bz-1).toNat]!) 0)-1).toNat]!).2.1) ((aV[(((aU[(bz-1).toNat]!) 0)-1).toNat]!).2.2.1) ((aV[(((aU[(bz-1).toNat]!) 0)-1).toNat]!).2.2.2.1) ((aV[(((aU[(bz-1).toNat]!) 0)-1).toNat]!).2.2.2.2.1) ((aV[(((aU[(bz-1).toNat]!) 0)-1).toNat]!).2.2.2.2.2.1) ((aV[(((aU[(bz-1).toNat]!) 0)-1).toNat]!).2.2.2.2.2.2.1) ((aV[(((aU[(bz-1).toNat]!) 0)-1).toNat]!).2.2.2.2.2.2.2.1) ((aV[(((aU[(bz-1).toNat]!) 0)-1).toNat]!).2.2.2.2.2.2.2.2.1) ((aV[(((aU[(bz-1).toNat]!) 0)-1).toNat]!).2.2.2.2.2.2.2.2.2.1) ((aV[(((aU[(bz-1).toNat]!) 0)-1).toNat]!).2.2.2.2.2.2.2.2.2.2.1) ((aV[(((aU[(bz-1).toNat]!) 0)-1).toNat]!).2.2.2.2.2.2.2.2.2.2.2))/\(
      ∃ zb:UT×LM×Int,zb=(Mr ((aV[(((aU[(bz-1).toNat]!) 0)-1).toNat]!).1) ((aV[(((aU[(bz-1).toNat]!) 0)-1).toNat]!).2.1) ((aV[(((aU[(bz-1).toNat]!) 0)-1).toNat]!).2.2.1) ((aV[(((aU[(bz-1).toNat]!) 0)-1).toNat]!).2.2.2.1) ((aV[(((aU[(bz-1).toNat]!) 0)-1).toNat]!).2.2.2.2.1) ((aV[(((aU[(bz-1).toNat]!) 0)-1).toNat]!).2.2.2.2.2.1) ((aV[(((aU[(bz-1).toNat]!) 0)-1).toNat]!).2.2.2.2.2.2.1) ((aV[(((aU[(bz-1).toNat]!) 0)-1).toNat]!).2.2.2.2.2.2.2.1) ((aV[(((aU[(bz-1).toNat]!) 0)-1).toNat]!).2.2.2.2.2.2.2.2.1) ((aV[(((aU[(bz-1).toNat]!) 0)-1).toNat]!).2.2.2.2.2.2.2.2.2.1) ((aV[(((aU[(bz-1).toNat]!) 0)-1).toNat]!).2.2.2.2.2.2.2.2.2.2.1) ((aV[(((aU[(bz-1).toNat]!) 0)-1).toNat]!).2.2.2.2.2.2.2.2.2.2.2))/\(
      if zb.2.2=0 then
       (Jt bQ aU bt aV bo zb.1.1 zb.1.2.1 zb.1.2.2.1 zb.1.2.2.2.1 zb.1.2.2.2.2.1 zb.1.2.2.2.2.2.1 zb.1.2.2.2.2.2.2.1 zb.1.2.2.2.2.2.2.2.1 zb.1.2.2.2.2.2.2.2.2.1 zb.1.2.2.2.2.2.2.2.2.2.1 zb.1.2.2.2.2.2.2.2.2.2.2.1 zb.1.2.2.2.2.2.2.2.2.2.2.2)/\(
       r=((zb.2.1,0,(Hv bQ aU bt aV bo zb.1.1 zb.1.2.1 zb.1.2.2.1 zb.1.2.2.2.1 zb.1.2.2.2.2.1 zb.1.2.2.2.2.2.1 zb.1.2.2.2.2.2.2.1 zb.1.2.2.2.2.2.2.2.1 zb.1.2.2.2.2.2.2.2.2.1 zb.1.2.2.2.2.2.2.2.2.2.1 zb.1.2.2.2.2.2.2.2.2.2.2.1 zb.1.2.2.2.2.2.2.2.2.2.2.2).1,(Hv bQ aU bt aV bo zb.1.1 zb.1.2.1 zb.1.2.2.1 zb.1.2.2.2.1 zb.1.2.2.2.2.1 zb.1.2.2.2.2.2.1 zb.1.2.2.2.2.2.2.1 zb.1.2.2.2.2.2.2.2.1 zb.1.2.2.2.2.2.2.2.2.1 zb.1.2.2.2.2.2.2.2.2.2.1 zb.1.2.2.2.2.2.2.2.2.2.2.1 zb.1.2.2.2.2.2.2.2.2.2.2.2).2.1,(Hv bQ aU bt aV bo zb.1.1 zb.1.2.1 zb.1.2.2.1 zb.1.2.2.2.1 zb.1.2.2.2.2.1 zb.1.2.2.2.2.2.1 zb.1.2.2.2.2.2.2.1 zb.1.2.2.2.2.2.2.2.1 zb.1.2.2.2.2.2.2.2.2.1 zb.1.2.2.2.2.2.2.2.2.2.1 zb.1.2.2.2.2.2.2.2.2.2.2.1 zb.1.2.2.2.2.2.2.2.2.2.2.2).2.2)))
      else
       r=(([],zb.2.2,aU,aV,bo))))
     else
      if(aV[(((aU[(bz-1).toNat]!) 0)-1).toNat]!).2.1=1 then
       (Kk ((aV[(((aU[(bz-1).toNat]!) 0)-1).toNat]!).1) ((aV[(((aU[(bz-1).toNat]!) 0)-1).toNat]!).2.1) ((aV[(((aU[(bz-1).toNat]!) 0)-1).toNat]!).2.2.1) ((aV[(((aU[(bz-1).toNat]!) 0)-1).toNat]!).2.2.2.1) ((aV[(((aU[(bz-1).toNat]!) 0)-1).toNat]!).2.2.2.2.1) ((aV[(((aU[(bz-1).toNat]!) 0)-1).toNat]!).2.2.2.2.2.1) ((aV[(((aU[(bz-1).toNat]!) 0)-1).toNat]!).2.2.2.2.2.2.1) ((aV[(((aU[(bz-1).toNat]!) 0)-1).toNat]!).2.2.2.2.2.2.2.1) ((aV[(((aU[(bz-1).toNat]!) 0)-1).toNat]!).2.2.2.2.2.2.2.2.1) ((aV[(((aU[(bz-1).toNat]!) 0)-1).toNat]!).2.2.2.2.2.2.2.2.2.1) ((aV[(((aU[(bz-1).toNat]!) 0)-1).toNat]!).2.2.2.2.2.2.2.2.2.2.1) ((aV[(((aU[(bz-1).toNat]!) 0)-1).toNat]!).2.2.2.2.2.2.2.2.2.2.2) 1)/\(
       ∃ zc:UT×LM×Int,zc=(KX ((aV[(((aU[(bz-1).toNat]!) 0)-1).toNat]!).1) ((aV[(((aU[(bz-1).toNat]!) 0)-1).toNat]!).2.1) ((aV[(((aU[(bz-1).toNat]!) 0)-1).toNat]!).2.2.1) ((aV[(((aU[(bz-1).toNat]!) 0)-1).toNat]!).2.2.2.1) ((aV[(((aU[(bz-1).toNat]!) 0)-1).toNat]!).2.2.2.2.1) ((aV[(((aU[(bz-1).toNat]!) 0)-1).toNat]!).2.2.2.2.2.1) ((aV[(((aU[(bz-1).toNat]!) 0)-1).toNat]!).2.2.2.2.2.2.1) ((aV[(((aU[(bz-1).toNat]!) 0)-1).toNat]!).2.2.2.2.2.2.2.1) ((aV[(((aU[(bz-1).toNat]!) 0)-1).toNat]!).2.2.2.2.2.2.2.2.1) ((aV[(((aU[(bz-1).toNat]!) 0)-1).toNat]!).2.2.2.2.2.2.2.2.2.1) ((aV[(((aU[(bz-1).toNat]!) 0)-1).toNat]!).2.2.2.2.2.2.2.2.2.2.1) ((aV[(((aU[(bz-1).toNat]!) 0)-1).toNat]!).2.2.2.2.2.2.2.2.2.2.2) 1)/\(
       if zc.2.2=0 then
        (Jt bQ aU bt aV bo zc.1.1 zc.1.2.1 zc.1.2.2.1 zc.1.2.2.2.1 zc.1.2.2.2.2.1 zc.1.2.2.2.2.2.1 zc.1.2.2.2.2.2.2.1 zc.1.2.2.2.2.2.2.2.1 zc.1.2.2.2.2.2.2.2.2.1 zc.1.2.2.2.2.2.2.2.2.2.1 zc.1.2.2.2.2.2.2.2.2.2.2.1 zc.1.2.2.2.2.2.2.2.2.2.2.2)/\(
        r=((zc.2.1,0,(Hv bQ aU bt aV bo zc.1.1 zc.1.2.1 zc.1.2.2.1 zc.1.2.2.2.1 zc.1.2.2.2.2.1 zc.1.2.2.2.2.2.1 zc.1.2.2.2.2.2.2.1 zc.1.2.2.2.2.2.2.2.1 zc.1.2.2.2.2.2.2.2.2.1 zc.1.2.2.2.2.2.2.2.2.2.1 zc.1.2.2.2.2.2.2.2.2.2.2.1 zc.1.2.2.2.2.2.2.2.2.2.2.2).1,(Hv bQ aU bt aV bo zc.1.1 zc.1.2.1 zc.1.2.2.1 zc.1.2.2.2.1 zc.1.2.2.2.2.1 zc.1.2.2.2.2.2.1 zc.1.2.2.2.2.2.2.1 zc.1.2.2.2.2.2.2.2.1 zc.1.2.2.2.2.2.2.2.2.1 zc.1.2.2.2.2.2.2.2.2.2.1 zc.1.2.2.2.2.2.2.2.2.2.2.1 zc.1.2.2.2.2.2.2.2.2.2.2.2).2.1,(Hv bQ aU bt aV bo zc.1.1 zc.1.2.1 zc.1.2.2.1 zc.1.2.2.2.1 zc.1.2.2.2.2.1 zc.1.2.2.2.2.2.1 zc.1.2.2.2.2.2.2.1 zc.1.2.2.2.2.2.2.2.1 zc.1.2.2.2.2.2.2.2.2.1 zc.1.2.2.2.2.2.2.2.2.2.1 zc.1.2.2.2.2.2.2.2.2.2.2.1 zc.1.2.2.2.2.2.2.2.2.2.2.2).2.2)))
       else
        r=(([],zc.2.2,aU,aV,bo))))
      else
       r=(([],11,aU,aV,bo))))))
 else
  r=(([],(L3 bQ aU bt aV bo bz),aU,aV,bo)))
def NP (bQ:NI) (aU:LM) (bt:Int) (aV:(List UT)) (bo:LM) (cI bz:Int) (jw:NI) (m4:Int):LM×Int×LM×(List UT)×LM:=
 if(L3 bQ aU bt aV bo bz)=0 then
  if cI=3 then
   if((decide (bz<1))||(decide ((aU.length:Int)<bz)))=true then
    ([],0,aU,aV,(bo++[(Gq (Gq (fun _=>0) 0 8) 1 bz)]))
   else
    if((Jr bt))=true then
     if((nz ((aU[(bz-1).toNat]!) 1)))=true then
      ([],0,aU,aV,(bo++[(Gq (Gq (fun _=>0) 0 8) 1 bz)]))
     else
      ([],0,([]++aU).set ((bz-1).toNat) ((Gq (Gq (aU[(bz-1).toNat]!) 1 (bI true)) 2 bt)),aV,(bo++[(Gq (Gq (fun _=>0) 0 8) 1 bz)]))
    else
     ([],0,aU,aV,(bo++[(Gq (Gq (fun _=>0) 0 8) 1 bz)]))
  else
   if(aU[(bz-1).toNat]!) 0=0 then
    ([],10,aU,aV,bo)
   else
    if cI=0 then
     if((Iy jw))=true then
      (fun(za:UT×LM×Int)=>
       if za.2.2=0 then
        (za.2.1,0,(Hv bQ aU bt aV (bo++[(Gq (GX (Gq (Gq (fun _=>0) 0 2) 2 ((aU[(bz-1).toNat]!) 0)) 3 2 jw) 5 m4)]) za.1.1 za.1.2.1 za.1.2.2.1 za.1.2.2.2.1 za.1.2.2.2.2.1 za.1.2.2.2.2.2.1 za.1.2.2.2.2.2.2.1 za.1.2.2.2.2.2.2.2.1 za.1.2.2.2.2.2.2.2.2.1 za.1.2.2.2.2.2.2.2.2.2.1 za.1.2.2.2.2.2.2.2.2.2.2.1 za.1.2.2.2.2.2.2.2.2.2.2.2).1,(Hv bQ aU bt aV (bo++[(Gq (GX (Gq (Gq (fun _=>0) 0 2) 2 ((aU[(bz-1).toNat]!) 0)) 3 2 jw) 5 m4)]) za.1.1 za.1.2.1 za.1.2.2.1 za.1.2.2.2.1 za.1.2.2.2.2.1 za.1.2.2.2.2.2.1 za.1.2.2.2.2.2.2.1 za.1.2.2.2.2.2.2.2.1 za.1.2.2.2.2.2.2.2.2.1 za.1.2.2.2.2.2.2.2.2.2.1 za.1.2.2.2.2.2.2.2.2.2.2.1 za.1.2.2.2.2.2.2.2.2.2.2.2).2.1,(Hv bQ aU bt aV (bo++[(Gq (GX (Gq (Gq (fun _=>0) 0 2) 2 ((aU[(bz-1).toNat]!) 0)) 3 2 jw) 5 m4)]) za.1.1 za.1.2.1 za.1.2.2.1 za.1.2.2.2.1 za.1.2.2.2.2.1 za.1.2.2.2.2.2.1 za.1.2.2.2.2.2.2.1 za.1.2.2.2.2.2.2.2.1 za.1.2.2.2.2.2.2.2.2.1 za.1.2.2.2.2.2.2.2.2.2.1 za.1.2.2.2.2.2.2.2.2.2.2.1 za.1.2.2.2.2.2.2.2.2.2.2.2).2.2)
       else
        ([],za.2.2,aU,aV,bo)) ((SS ((aV[(((aU[(bz-1).toNat]!) 0)-1).toNat]!).1) ((aV[(((aU[(bz-1).toNat]!) 0)-1).toNat]!).2.1) ((aV[(((aU[(bz-1).toNat]!) 0)-1).toNat]!).2.2.1) ((aV[(((aU[(bz-1).toNat]!) 0)-1).toNat]!).2.2.2.1) ((aV[(((aU[(bz-1).toNat]!) 0)-1).toNat]!).2.2.2.2.1) ((aV[(((aU[(bz-1).toNat]!) 0)-1).toNat]!).2.2.2.2.2.1) ((aV[(((aU[(bz-1).toNat]!) 0)-1).toNat]!).2.2.2.2.2.2.1) ((aV[(((aU[(bz-1).toNat]!) 0)-1).toNat]!).2.2.2.2.2.2.2.1) ((aV[(((aU[(bz-1).toNat]!) 0)-1).toNat]!).2.2.2.2.2.2.2.2.1) ((aV[(((aU[(bz-1).toNat]!) 0)-1).toNat]!).2.2.2.2.2.2.2.2.2.1) ((aV[(((aU[(bz-1).toNat]!) 0)-1).toNat]!).2.2.2.2.2.2.2.2.2.2.1) ((aV[(((aU[(bz-1).toNat]!) 0)-1).toNat]!).2.2.2.2.2.2.2.2.2.2.2) (H3 jw (bQ 0)) jw m4))
     else
      ([],1,aU,aV,bo)
    else
     if cI=1 then
      (fun(zb:UT×LM×Int)=>
       if zb.2.2=0 then
        (zb.2.1,0,(Hv bQ aU bt aV bo zb.1.1 zb.1.2.1 zb.1.2.2.1 zb.1.2.2.2.1 zb.1.2.2.2.2.1 zb.1.2.2.2.2.2.1 zb.1.2.2.2.2.2.2.1 zb.1.2.2.2.2.2.2.2.1 zb.1.2.2.2.2.2.2.2.2.1 zb.1.2.2.2.2.2.2.2.2.2.1 zb.1.2.2.2.2.2.2.2.2.2.2.1 zb.1.2.2.2.2.2.2.2.2.2.2.2).1,(Hv bQ aU bt aV bo zb.1.1 zb.1.2.1 zb.1.2.2.1 zb.1.2.2.2.1 zb.1.2.2.2.2.1 zb.1.2.2.2.2.2.1 zb.1.2.2.2.2.2.2.1 zb.1.2.2.2.2.2.2.2.1 zb.1.2.2.2.2.2.2.2.2.1 zb.1.2.2.2.2.2.2.2.2.2.1 zb.1.2.2.2.2.2.2.2.2.2.2.1 zb.1.2.2.2.2.2.2.2.2.2.2.2).2.1,(Hv bQ aU bt aV bo zb.1.1 zb.1.2.1 zb.1.2.2.1 zb.1.2.2.2.1 zb.1.2.2.2.2.1 zb.1.2.2.2.2.2.1 zb.1.2.2.2.2.2.2.1 zb.1.2.2.2.2.2.2.2.1 zb.1.2.2.2.2.2.2.2.2.1 zb.1.2.2.2.2.2.2.2.2.2.1 zb.1.2.2.2.2.2.2.2.2.2.2.1 zb.1.2.2.2.2.2.2.2.2.2.2.2).2.2)
       else
        ([],zb.2.2,aU,aV,bo)) ((Mr ((aV[(((aU[(bz-1).toNat]!) 0)-1).toNat]!).1) ((aV[(((aU[(bz-1).toNat]!) 0)-1).toNat]!).2.1) ((aV[(((aU[(bz-1).toNat]!) 0)-1).toNat]!).2.2.1) ((aV[(((aU[(bz-1).toNat]!) 0)-1).toNat]!).2.2.2.1) ((aV[(((aU[(bz-1).toNat]!) 0)-1).toNat]!).2.2.2.2.1) ((aV[(((aU[(bz-1).toNat]!) 0)-1).toNat]!).2.2.2.2.2.1) ((aV[(((aU[(bz-1).toNat]!) 0)-1).toNat]!).2.2.2.2.2.2.1) ((aV[(((aU[(bz-1).toNat]!) 0)-1).toNat]!).2.2.2.2.2.2.2.1) ((aV[(((aU[(bz-1).toNat]!) 0)-1).toNat]!).2.2.2.2.2.2.2.2.1) ((aV[(((aU[(bz-1).toNat]!) 0)-1).toNat]!).2.2.2.2.2.2.2.2.2.1) ((aV[(((aU[(bz-1).toNat]!) 0)-1).toNat]!).2.2.2.2.2.2.2.2.2.2.1) ((aV[(((aU[(bz-1).toNat]!) 0)-1).toNat]!).2.2.2.2.2.2.2.2.2.2.2)))
     else
      if(aV[(((aU[(bz-1).toNat]!) 0)-1).toNat]!).2.1=1 then
       (fun(zc:UT×LM×Int)=>
        if zc.2.2=0 then
         (zc.2.1,0,(Hv bQ aU bt aV bo zc.1.1 zc.1.2.1 zc.1.2.2.1 zc.1.2.2.2.1 zc.1.2.2.2.2.1 zc.1.2.2.2.2.2.1 zc.1.2.2.2.2.2.2.1 zc.1.2.2.2.2.2.2.2.1 zc.1.2.2.2.2.2.2.2.2.1 zc.1.2.2.2.2.2.2.2.2.2.1 zc.1.2.2.2.2.2.2.2.2.2.2.1 zc.1.2.2.2.2.2.2.2.2.2.2.2).1,(Hv bQ aU bt aV bo zc.1.1 zc.1.2.1 zc.1.2.2.1 zc.1.2.2.2.1 zc.1.2.2.2.2.1 zc.1.2.2.2.2.2.1 zc.1.2.2.2.2.2.2.1 zc.1.2.2.2.2.2.2.2.1 zc.1.2.2.2.2.2.2.2.2.1 zc.1.2.2.2.2.2.2.2.2.2.1 zc.1.2.2.2.2.2.2.2.2.2.2.1 zc.1.2.2.2.2.2.2.2.2.2.2.2).2.1,(Hv bQ aU bt aV bo zc.1.1 zc.1.2.1 zc.1.2.2.1 zc.1.2.2.2.1 zc.1.2.2.2.2.1 zc.1.2.2.2.2.2.1 zc.1.2.2.2.2.2.2.1 zc.1.2.2.2.2.2.2.2.1 zc.1.2.2.2.2.2.2.2.2.1 zc.1.2.2.2.2.2.2.2.2.2.1 zc.1.2.2.2.2.2.2.2.2.2.2.1 zc.1.2.2.2.2.2.2.2.2.2.2.2).2.2)
        else
         ([],zc.2.2,aU,aV,bo)) ((KX ((aV[(((aU[(bz-1).toNat]!) 0)-1).toNat]!).1) ((aV[(((aU[(bz-1).toNat]!) 0)-1).toNat]!).2.1) ((aV[(((aU[(bz-1).toNat]!) 0)-1).toNat]!).2.2.1) ((aV[(((aU[(bz-1).toNat]!) 0)-1).toNat]!).2.2.2.1) ((aV[(((aU[(bz-1).toNat]!) 0)-1).toNat]!).2.2.2.2.1) ((aV[(((aU[(bz-1).toNat]!) 0)-1).toNat]!).2.2.2.2.2.1) ((aV[(((aU[(bz-1).toNat]!) 0)-1).toNat]!).2.2.2.2.2.2.1) ((aV[(((aU[(bz-1).toNat]!) 0)-1).toNat]!).2.2.2.2.2.2.2.1) ((aV[(((aU[(bz-1).toNat]!) 0)-1).toNat]!).2.2.2.2.2.2.2.2.1) ((aV[(((aU[(bz-1).toNat]!) 0)-1).toNat]!).2.2.2.2.2.2.2.2.2.1) ((aV[(((aU[(bz-1).toNat]!) 0)-1).toNat]!).2.2.2.2.2.2.2.2.2.2.1) ((aV[(((aU[(bz-1).toNat]!) 0)-1).toNat]!).2.2.2.2.2.2.2.2.2.2.2) 1))
      else
       ([],11,aU,aV,bo)
 else
  ([],(L3 bQ aU bt aV bo bz),aU,aV,bo)
def AaE (bQ:NI) (aU:LM) (bt:Int) (aV:(List UT)) (bo:LM) (cI bz:Int) (jw:NI) (m4:Int):Prop:=
 (Ok bQ aU bt aV bo bz)/\(
 if(L3 bQ aU bt aV bo bz)=0 then
  if cI=3 then
   if((decide (bz<1))||(decide ((aU.length:Int)<bz)))=true then
    ((bo.length+1)*56<=140737488355328)/\(
    True)
   else
    if((Jr bt))=true then
     (GN (bz-1))/\(
     (0<=bz-1/\bz-1<aU.length)/\(
     if((nz ((aU[(bz-1).toNat]!) 1)))=true then
      ((bo.length+1)*56<=140737488355328)/\(
      True)
     else
      ((0+aU.length)*24<=140737488355328)/\(
      (GN (bz-1))/\(
      (0<=bz-1/\bz-1<([]++aU).length)/\(
      ((bo.length+1)*56<=140737488355328)/\(
      True))))))
    else
     ((bo.length+1)*56<=140737488355328)/\(
     True)
  else
   (GN (bz-1))/\(
   (0<=bz-1/\bz-1<aU.length)/\(
   if(aU[(bz-1).toNat]!) 0=0 then
    True
   else
    (GN (((aU[(bz-1).toNat]!) 0)-1))/\(
    (0<=((aU[(bz-1).toNat]!) 0)-1/\((aU[(bz-1).toNat]!) 0)-1<aV.length)/\(
    if cI=0 then
     if((Iy jw))=true then
      (NW jw (bQ 0))/\(
      (Pz ((aV[(((aU[(bz-1).toNat]!) 0)-1).toNat]!).1) ((aV[(((aU[(bz-1).toNat]!) 0)-1).toNat]!).2.1) ((aV[(((aU[(bz-1).toNat]!) 0)-1).toNat]!).2.2.1) ((aV[(((aU[(bz-1).toNat]!) 0)-1).toNat]!).2.2.2.1) ((aV[(((aU[(bz-1).toNat]!) 0)-1).toNat]!).2.2.2.2.1) ((aV[(((aU[(bz-1).toNat]!) 0)-1).toNat]!).2.2.2.2.2.1) ((aV[(((aU[(bz-1).toNat]!) 0)-1).toNat]!).2.2.2.2.2.2.1) ((aV[(((aU[(bz-1).toNat]!) 0)-1).toNat]!).2.2.2.2.2.2.2.1) ((aV[(((aU[(bz-1).toNat]!) 0)-1).toNat]!).2.2.2.2.2.2.2.2.1) ((aV[(((aU[(bz-1).toNat]!) 0)-1).toNat]!).2.2.2.2.2.2.2.2.2.1) ((aV[(((aU[(bz-1).toNat]!) 0)-1).toNat]!).2.2.2.2.2.2.2.2.2.2.1) ((aV[(((aU[(bz-1).toNat]!) 0)-1).toNat]!).2.2.2.2.2.2.2.2.2.2.2) (H3 jw (bQ 0)) jw m4)/\(
      (fun(za:UT×LM×Int)=>
       if za.2.2=0 then
        ((bo.length+1)*56<=140737488355328)/\(
        (Jt bQ aU bt aV (bo++[(Gq (GX (Gq (Gq (fun _=>0) 0 2) 2 ((aU[(bz-1).toNat]!) 0)) 3 2 jw) 5 m4)]) za.1.1 za.1.2.1 za.1.2.2.1 za.1.2.2.2.1 za.1.2.2.2.2.1 za.1.2.2.2.2.2.1 za.1.2.2.2.2.2.2.1 za.1.2.2.2.2.2.2.2.1 za.1.2.2.2.2.2.2.2.2.1 za.1.2.2.2.2.2.2.2.2.2.1 za.1.2.2.2.2.2.2.2.2.2.2.1 za.1.2.2.2.2.2.2.2.2.2.2.2)/\(
        True))
       else
        True) ((SS ((aV[(((aU[(bz-1).toNat]!) 0)-1).toNat]!).1) ((aV[(((aU[(bz-1).toNat]!) 0)-1).toNat]!).2.1) ((aV[(((aU[(bz-1).toNat]!) 0)-1).toNat]!).2.2.1) ((aV[(((aU[(bz-1).toNat]!) 0)-1).toNat]!).2.2.2.1) ((aV[(((aU[(bz-1).toNat]!) 0)-1).toNat]!).2.2.2.2.1) ((aV[(((aU[(bz-1).toNat]!) 0)-1).toNat]!).2.2.2.2.2.1) ((aV[(((aU[(bz-1).toNat]!) 0)-1).toNat]!).2.2.2.2.2.2.1) ((aV[(((aU[(bz-1).toNat]!) 0)-1).toNat]!).2.2.2.2.2.2.2.1) ((aV[(((aU[(bz-1).toNat]!) 0)-1).toNat]!).2.2.2.2.2.2.2.2.1) ((aV[(((aU[(bz-1).toNat]!) 0)-1).toNat]!).2.2.2.2.2.2.2.2.2.1) ((aV[(((aU[(bz-1).toNat]!) 0)-1).toNat]!).2.2.2.2.2.2.2.2.2.2.1) ((aV[(((aU[(bz-1).toNat]!) 0)-1).toNat]!).2.2.2.2.2.2.2.2.2.2.2) (H3 jw (bQ 0)) jw m4))))
     else
      True
    else
     if cI=1 then
      (KH ((aV[(((aU[(bz-1).toNat]!) 0)-1).toNat]!).1) ((aV[(((aU[(bz-1).toNat]!) 0)-1).toNat]!).2.1) ((aV[(((aU[(bz-1).toNat]!) 0)-1).toNat]!).2.2.1) ((aV[(((aU[(bz-1).toNat]!) 0)-1).toNat]!).2.2.2.1) ((aV[(((aU[(bz-1).toNat]!) 0)-1).toNat]!).2.2.2.2.1) ((aV[(((aU[(bz-1).toNat]!) 0)-1).toNat]!).2.2.2.2.2.1) ((aV[(((aU[(bz-1).toNat]!) 0)-1).toNat]!).2.2.2.2.2.2.1) ((aV[(((aU[(bz-1).toNat]!) 0)-1).toNat]!).2.2.2.2.2.2.2.1) ((aV[(((aU[(bz-1).toNat]!) 0)-1).toNat]!).2.2.2.2.2.2.2.2.1) ((aV[(((aU[(bz-1).toNat]!) 0)-1).toNat]!).2.2.2.2.2.2.2.2.2.1) ((aV[(((aU[(bz-1).toNat]!) 0)-1).toNat]!).2.2.2.2.2.2.2.2.2.2.1) ((aV[(((aU[(bz-1).toNat]!) 0)-1).toNat]!).2.2.2.2.2.2.2.2.2.2.2))/\(
      (fun(zb:UT×LM×Int)=>
       if zb.2.2=0 then
        (Jt bQ aU bt aV bo zb.1.1 zb.1.2.1 zb.1.2.2.1 zb.1.2.2.2.1 zb.1.2.2.2.2.1 zb.1.2.2.2.2.2.1 zb.1.2.2.2.2.2.2.1 zb.1.2.2.2.2.2.2.2.1 zb.1.2.2.2.2.2.2.2.2.1 zb.1.2.2.2.2.2.2.2.2.2.1 zb.1.2.2.2.2.2.2.2.2.2.2.1 zb.1.2.2.2.2.2.2.2.2.2.2.2)/\(
        True)
       else
        True) ((Mr ((aV[(((aU[(bz-1).toNat]!) 0)-1).toNat]!).1) ((aV[(((aU[(bz-1).toNat]!) 0)-1).toNat]!).2.1) ((aV[(((aU[(bz-1).toNat]!) 0)-1).toNat]!).2.2.1) ((aV[(((aU[(bz-1).toNat]!) 0)-1).toNat]!).2.2.2.1) ((aV[(((aU[(bz-1).toNat]!) 0)-1).toNat]!).2.2.2.2.1) ((aV[(((aU[(bz-1).toNat]!) 0)-1).toNat]!).2.2.2.2.2.1) ((aV[(((aU[(bz-1).toNat]!) 0)-1).toNat]!).2.2.2.2.2.2.1) ((aV[(((aU[(bz-1).toNat]!) 0)-1).toNat]!).2.2.2.2.2.2.2.1) ((aV[(((aU[(bz-1).toNat]!) 0)-1).toNat]!).2.2.2.2.2.2.2.2.1) ((aV[(((aU[(bz-1).toNat]!) 0)-1).toNat]!).2.2.2.2.2.2.2.2.2.1) ((aV[(((aU[(bz-1).toNat]!) 0)-1).toNat]!).2.2.2.2.2.2.2.2.2.2.1) ((aV[(((aU[(bz-1).toNat]!) 0)-1).toNat]!).2.2.2.2.2.2.2.2.2.2.2))))
     else
      if(aV[(((aU[(bz-1).toNat]!) 0)-1).toNat]!).2.1=1 then
       (Kk ((aV[(((aU[(bz-1).toNat]!) 0)-1).toNat]!).1) ((aV[(((aU[(bz-1).toNat]!) 0)-1).toNat]!).2.1) ((aV[(((aU[(bz-1).toNat]!) 0)-1).toNat]!).2.2.1) ((aV[(((aU[(bz-1).toNat]!) 0)-1).toNat]!).2.2.2.1) ((aV[(((aU[(bz-1).toNat]!) 0)-1).toNat]!).2.2.2.2.1) ((aV[(((aU[(bz-1).toNat]!) 0)-1).toNat]!).2.2.2.2.2.1) ((aV[(((aU[(bz-1).toNat]!) 0)-1).toNat]!).2.2.2.2.2.2.1) ((aV[(((aU[(bz-1).toNat]!) 0)-1).toNat]!).2.2.2.2.2.2.2.1) ((aV[(((aU[(bz-1).toNat]!) 0)-1).toNat]!).2.2.2.2.2.2.2.2.1) ((aV[(((aU[(bz-1).toNat]!) 0)-1).toNat]!).2.2.2.2.2.2.2.2.2.1) ((aV[(((aU[(bz-1).toNat]!) 0)-1).toNat]!).2.2.2.2.2.2.2.2.2.2.1) ((aV[(((aU[(bz-1).toNat]!) 0)-1).toNat]!).2.2.2.2.2.2.2.2.2.2.2) 1)/\(
       (fun(zc:UT×LM×Int)=>
        if zc.2.2=0 then
         (Jt bQ aU bt aV bo zc.1.1 zc.1.2.1 zc.1.2.2.1 zc.1.2.2.2.1 zc.1.2.2.2.2.1 zc.1.2.2.2.2.2.1 zc.1.2.2.2.2.2.2.1 zc.1.2.2.2.2.2.2.2.1 zc.1.2.2.2.2.2.2.2.2.1 zc.1.2.2.2.2.2.2.2.2.2.1 zc.1.2.2.2.2.2.2.2.2.2.2.1 zc.1.2.2.2.2.2.2.2.2.2.2.2)/\(
         True)
        else
         True) ((KX ((aV[(((aU[(bz-1).toNat]!) 0)-1).toNat]!).1) ((aV[(((aU[(bz-1).toNat]!) 0)-1).toNat]!).2.1) ((aV[(((aU[(bz-1).toNat]!) 0)-1).toNat]!).2.2.1) ((aV[(((aU[(bz-1).toNat]!) 0)-1).toNat]!).2.2.2.1) ((aV[(((aU[(bz-1).toNat]!) 0)-1).toNat]!).2.2.2.2.1) ((aV[(((aU[(bz-1).toNat]!) 0)-1).toNat]!).2.2.2.2.2.1) ((aV[(((aU[(bz-1).toNat]!) 0)-1).toNat]!).2.2.2.2.2.2.1) ((aV[(((aU[(bz-1).toNat]!) 0)-1).toNat]!).2.2.2.2.2.2.2.1) ((aV[(((aU[(bz-1).toNat]!) 0)-1).toNat]!).2.2.2.2.2.2.2.2.1) ((aV[(((aU[(bz-1).toNat]!) 0)-1).toNat]!).2.2.2.2.2.2.2.2.2.1) ((aV[(((aU[(bz-1).toNat]!) 0)-1).toNat]!).2.2.2.2.2.2.2.2.2.2.1) ((aV[(((aU[(bz-1).toNat]!) 0)-1).toNat]!).2.2.2.2.2.2.2.2.2.2.2) 1)))
      else
       True))))
 else
  True)
theorem AgC {bQ aU bt aV bo cI bz jw m4} (hP:AaE bQ aU bt aV bo cI bz jw m4):Ac6 bQ aU bt aV bo cI bz jw m4 (NP bQ aU bt aV bo cI bz jw m4):=OKW hP
end Go.E
namespace Go.E
open Go
def Ac3 (t:TT) (k:Int):LM:=if t.2.2.2.2.1=true then [Gq (Gq (fun _=>0) 0 k) 1 t.2.2.2.1] else []
def X1 (txs:List TT) (k:Nat):LM:=(List.range k).flatMap fun i:Nat=>Ac3 (txs[i]!) ((i:Int)+1)
theorem V4 (txs:List TT) (k:Nat):X1 txs (k+1)=X1 txs k++Ac3 (txs[k]!) ((k:Int)+1):=by
 unfold X1
 rw[List.range_succ,List.flatMap_append,List.flatMap_singleton]
theorem X0 (txs:List TT):∀ k:Nat,(X1 txs k).length<=k
 | 0=>Nat.le_refl _
 | k+1=>by
  have:=X0 txs k
  have h2:(Ac3 (txs[k]!) ((k:Int)+1)).length<=1:=by
   unfold Ac3
   split
   .exact Nat.le_refl _
   .exact Nat.zero_le _
  rw[V4,List.length_append]
  omega
def Oi (_c:Nat->Int) (_cl:LM) (_ti:Int) (txs:List TT) (_tr:LM):LM:=X1 txs txs.length
def Rq (_c:Nat->Int) (_cl:LM) (_ti:Int) (txs:List TT) (_tr:LM):Prop:=txs.length<=1000000
theorem Ac2 {c:Nat->Int} {cl:LM} {ti:Int} {txs:List TT} {tr:LM} (h:Rq c cl ti txs tr):T2 c cl ti txs tr (Oi c cl ti txs tr):=by
 unfold Rq at h
 unfold T2 Oi
 refine⟨X1 txs txs.length,?_,rfl⟩
 refine aH (f:=fun(s:LM×Int) (o:(LM×Int) ⊕ LM)=>NO txs s.1 s.2 o) (fun k:Nat=>(X1 txs k,(k:Int))) txs.length (fun k hk=>?_) ?_
 .dsimp only
  unfold NO
  have hl:=X0 txs k
  rw[Ae Aa,Int.toNat_natCast,V4]
  unfold Ac3
  refine⟨⟨Aa,Aa⟩,?_⟩
  by_cases ho:(txs[k]!).2.2.2.2.1=true
  .rw[Ae ho,Ae ho]
   exact⟨JK Aa,⟨Aa,Aa⟩,Aa,JK Aa,rfl⟩
  .rw[Af ho,Af ho,List.append_nil]
   exact⟨JK Aa,rfl⟩
 .dsimp only
  unfold NO
  rw[Af Aa]
end Go.E
namespace Go.E
open Go
def Ju (bQ:NI) (aU:LM) (bt:Int) (aV:(List UT)) (bo:LM) (m1:NI):LM×LM×(List UT)×LM:=
 if((nz (bQ 1)))=true then
  if((Ql m1 (Oi bQ aU bt aV bo)))=true then
   if((Sc m1))=true then
    ((Hn bQ aU bt aV bo (I2 m1) 4 1).1,(Hn bQ aU bt aV bo (I2 m1) 4 1).2.1,(Hn bQ aU bt aV bo (I2 m1) 4 1).2.2.1,(Hn bQ aU bt aV bo (I2 m1) 4 1).2.2.2)
   else
    if(IG bQ aU bt aV bo (m1 9))=0 then
     ([],aU,aV,bo)
    else
     if((!((aV[((m1 9)-1).toNat]!).2.2.2.2.1))||((!(decide (m1 10=0)))&&(!(decide (m1 10=(aV[((m1 9)-1).toNat]!).2.2.2.1)))))=true then
      ([],aU,aV,bo)
     else
      ([(Gq (Gq m1 1 0) 2 ((aV[((m1 9)-1).toNat]!).2.2.2.2.2.1))],aU,aV,bo)
  else
   ([],aU,aV,bo)
 else
  ([],aU,aV,bo)
def KC (bQ:NI) (aU:LM) (bt:Int) (aV:(List UT)) (bo:LM) (m1:NI) (k:(LM×LM×(List UT)×LM)->Prop:=fun _=>True):Prop:=
 if((nz (bQ 1)))=true then
  (Rq bQ aU bt aV bo)/\(
  (Xe m1 (Oi bQ aU bt aV bo))/\(
  if((Ql m1 (Oi bQ aU bt aV bo)))=true then
   if((Sc m1))=true then
    (P7 m1)/\(
    (KR bQ aU bt aV bo (I2 m1) 4 1)/\(
    k (((Hn bQ aU bt aV bo (I2 m1) 4 1).1,(Hn bQ aU bt aV bo (I2 m1) 4 1).2.1,(Hn bQ aU bt aV bo (I2 m1) 4 1).2.2.1,(Hn bQ aU bt aV bo (I2 m1) 4 1).2.2.2))))
   else
    (JX bQ aU bt aV bo (m1 9))/\(
    if(IG bQ aU bt aV bo (m1 9))=0 then
     k (([],aU,aV,bo))
    else
     (GN ((m1 9)-1))/\(
     (0<=(m1 9)-1/\(m1 9)-1<aV.length)/\(
     if((!((aV[((m1 9)-1).toNat]!).2.2.2.2.1))||((!(decide (m1 10=0)))&&(!(decide (m1 10=(aV[((m1 9)-1).toNat]!).2.2.2.1)))))=true then
      k (([],aU,aV,bo))
     else
      k (([(Gq (Gq m1 1 0) 2 ((aV[((m1 9)-1).toNat]!).2.2.2.2.2.1))],aU,aV,bo)))))
  else
   k (([],aU,aV,bo))))
 else
  k (([],aU,aV,bo))
theorem Zj {bQ aU bt aV bo m1} (hP:KC bQ aU bt aV bo m1):KC bQ aU bt aV bo m1 (Eq (Ju bQ aU bt aV bo m1)):=Pc hP
def Sp (bQ:NI) (aU:LM) (bt:Int) (aV:(List UT)) (bo:LM) (m1:NI) (r:LM×LM×(List UT)×LM):Prop:=
 if m1 0=11 then
  (KC bQ aU bt aV bo m1)/\(
  r=(((Ju bQ aU bt aV bo m1).1,(Ju bQ aU bt aV bo m1).2.1,(Ju bQ aU bt aV bo m1).2.2.1,(Ju bQ aU bt aV bo m1).2.2.2)))
 else
  (JX bQ aU bt aV bo (m1 3))/\(
  if(IG bQ aU bt aV bo (m1 3))=0 then
   r=(([],aU,aV,bo))
  else
   (GN ((m1 3)-1))/\(
   (0<=(m1 3)-1/\(m1 3)-1<aV.length)/\(
   if((decide (m1 0=2))||(decide (m1 0=3)))=true then
    (JB ((aV[((m1 3)-1).toNat]!).1) ((aV[((m1 3)-1).toNat]!).2.1) ((aV[((m1 3)-1).toNat]!).2.2.1) ((aV[((m1 3)-1).toNat]!).2.2.2.1) ((aV[((m1 3)-1).toNat]!).2.2.2.2.1) ((aV[((m1 3)-1).toNat]!).2.2.2.2.2.1) ((aV[((m1 3)-1).toNat]!).2.2.2.2.2.2.1) ((aV[((m1 3)-1).toNat]!).2.2.2.2.2.2.2.1) ((aV[((m1 3)-1).toNat]!).2.2.2.2.2.2.2.2.1) ((aV[((m1 3)-1).toNat]!).2.2.2.2.2.2.2.2.2.1) ((aV[((m1 3)-1).toNat]!).2.2.2.2.2.2.2.2.2.2.1) ((aV[((m1 3)-1).toNat]!).2.2.2.2.2.2.2.2.2.2.2) m1)/\(
    ∃ za:UT×Int,za=(KJ ((aV[((m1 3)-1).toNat]!).1) ((aV[((m1 3)-1).toNat]!).2.1) ((aV[((m1 3)-1).toNat]!).2.2.1) ((aV[((m1 3)-1).toNat]!).2.2.2.1) ((aV[((m1 3)-1).toNat]!).2.2.2.2.1) ((aV[((m1 3)-1).toNat]!).2.2.2.2.2.1) ((aV[((m1 3)-1).toNat]!).2.2.2.2.2.2.1) ((aV[((m1 3)-1).toNat]!).2.2.2.2.2.2.2.1) ((aV[((m1 3)-1).toNat]!).2.2.2.2.2.2.2.2.1) ((aV[((m1 3)-1).toNat]!).2.2.2.2.2.2.2.2.2.1) ((aV[((m1 3)-1).toNat]!).2.2.2.2.2.2.2.2.2.2.1) ((aV[((m1 3)-1).toNat]!).2.2.2.2.2.2.2.2.2.2.2) m1)/\(
    if za.2=0 then
     (Jt bQ aU bt aV bo za.1.1 za.1.2.1 za.1.2.2.1 za.1.2.2.2.1 za.1.2.2.2.2.1 za.1.2.2.2.2.2.1 za.1.2.2.2.2.2.2.1 za.1.2.2.2.2.2.2.2.1 za.1.2.2.2.2.2.2.2.2.1 za.1.2.2.2.2.2.2.2.2.2.1 za.1.2.2.2.2.2.2.2.2.2.2.1 za.1.2.2.2.2.2.2.2.2.2.2.2)/\(
     ((((Hv bQ aU bt aV bo za.1.1 za.1.2.1 za.1.2.2.1 za.1.2.2.2.1 za.1.2.2.2.2.1 za.1.2.2.2.2.2.1 za.1.2.2.2.2.2.2.1 za.1.2.2.2.2.2.2.2.1 za.1.2.2.2.2.2.2.2.2.1 za.1.2.2.2.2.2.2.2.2.2.1 za.1.2.2.2.2.2.2.2.2.2.2.1 za.1.2.2.2.2.2.2.2.2.2.2.2).2.2).length+1)*56<=140737488355328)/\(
     r=(([],(Hv bQ aU bt aV bo za.1.1 za.1.2.1 za.1.2.2.1 za.1.2.2.2.1 za.1.2.2.2.2.1 za.1.2.2.2.2.2.1 za.1.2.2.2.2.2.2.1 za.1.2.2.2.2.2.2.2.1 za.1.2.2.2.2.2.2.2.2.1 za.1.2.2.2.2.2.2.2.2.2.1 za.1.2.2.2.2.2.2.2.2.2.2.1 za.1.2.2.2.2.2.2.2.2.2.2.2).1,(Hv bQ aU bt aV bo za.1.1 za.1.2.1 za.1.2.2.1 za.1.2.2.2.1 za.1.2.2.2.2.1 za.1.2.2.2.2.2.1 za.1.2.2.2.2.2.2.1 za.1.2.2.2.2.2.2.2.1 za.1.2.2.2.2.2.2.2.2.1 za.1.2.2.2.2.2.2.2.2.2.1 za.1.2.2.2.2.2.2.2.2.2.2.1 za.1.2.2.2.2.2.2.2.2.2.2.2).2.1,((Hv bQ aU bt aV bo za.1.1 za.1.2.1 za.1.2.2.1 za.1.2.2.2.1 za.1.2.2.2.2.1 za.1.2.2.2.2.2.1 za.1.2.2.2.2.2.2.1 za.1.2.2.2.2.2.2.2.1 za.1.2.2.2.2.2.2.2.2.1 za.1.2.2.2.2.2.2.2.2.2.1 za.1.2.2.2.2.2.2.2.2.2.2.1 za.1.2.2.2.2.2.2.2.2.2.2.2).2.2++[(if m1 0=2 then(Gq (GX (Gq (Gq (fun _=>0) 0 3) 2 (m1 3)) 3 2 ((aV[((m1 3)-1).toNat]!).2.2.2.2.2.2.1)) 5 (m1 7)) else(Gq (GX (Gq (Gq (fun _=>0) 0 4) 2 (m1 3)) 3 2 ((aV[((m1 3)-1).toNat]!).2.2.2.2.2.2.1)) 6 (m1 8)))])))))
    else
     r=(([],aU,aV,bo))))
   else
    if m1 0=5 then
     (T8 ((aV[((m1 3)-1).toNat]!).1) ((aV[((m1 3)-1).toNat]!).2.1) ((aV[((m1 3)-1).toNat]!).2.2.1) ((aV[((m1 3)-1).toNat]!).2.2.2.1) ((aV[((m1 3)-1).toNat]!).2.2.2.2.1) ((aV[((m1 3)-1).toNat]!).2.2.2.2.2.1) ((aV[((m1 3)-1).toNat]!).2.2.2.2.2.2.1) ((aV[((m1 3)-1).toNat]!).2.2.2.2.2.2.2.1) ((aV[((m1 3)-1).toNat]!).2.2.2.2.2.2.2.2.1) ((aV[((m1 3)-1).toNat]!).2.2.2.2.2.2.2.2.2.1) ((aV[((m1 3)-1).toNat]!).2.2.2.2.2.2.2.2.2.2.1) ((aV[((m1 3)-1).toNat]!).2.2.2.2.2.2.2.2.2.2.2) m1)/\(
     ∃ zb:UT×LM×Int,zb=(Ov ((aV[((m1 3)-1).toNat]!).1) ((aV[((m1 3)-1).toNat]!).2.1) ((aV[((m1 3)-1).toNat]!).2.2.1) ((aV[((m1 3)-1).toNat]!).2.2.2.1) ((aV[((m1 3)-1).toNat]!).2.2.2.2.1) ((aV[((m1 3)-1).toNat]!).2.2.2.2.2.1) ((aV[((m1 3)-1).toNat]!).2.2.2.2.2.2.1) ((aV[((m1 3)-1).toNat]!).2.2.2.2.2.2.2.1) ((aV[((m1 3)-1).toNat]!).2.2.2.2.2.2.2.2.1) ((aV[((m1 3)-1).toNat]!).2.2.2.2.2.2.2.2.2.1) ((aV[((m1 3)-1).toNat]!).2.2.2.2.2.2.2.2.2.2.1) ((aV[((m1 3)-1).toNat]!).2.2.2.2.2.2.2.2.2.2.2) m1)/\(
     if zb.2.2=0 then
      (Jt bQ aU bt aV bo zb.1.1 zb.1.2.1 zb.1.2.2.1 zb.1.2.2.2.1 zb.1.2.2.2.2.1 zb.1.2.2.2.2.2.1 zb.1.2.2.2.2.2.2.1 zb.1.2.2.2.2.2.2.2.1 zb.1.2.2.2.2.2.2.2.2.1 zb.1.2.2.2.2.2.2.2.2.2.1 zb.1.2.2.2.2.2.2.2.2.2.2.1 zb.1.2.2.2.2.2.2.2.2.2.2.2)/\(
      r=((zb.2.1,(Hv bQ aU bt aV bo zb.1.1 zb.1.2.1 zb.1.2.2.1 zb.1.2.2.2.1 zb.1.2.2.2.2.1 zb.1.2.2.2.2.2.1 zb.1.2.2.2.2.2.2.1 zb.1.2.2.2.2.2.2.2.1 zb.1.2.2.2.2.2.2.2.2.1 zb.1.2.2.2.2.2.2.2.2.2.1 zb.1.2.2.2.2.2.2.2.2.2.2.1 zb.1.2.2.2.2.2.2.2.2.2.2.2).1,(Hv bQ aU bt aV bo zb.1.1 zb.1.2.1 zb.1.2.2.1 zb.1.2.2.2.1 zb.1.2.2.2.2.1 zb.1.2.2.2.2.2.1 zb.1.2.2.2.2.2.2.1 zb.1.2.2.2.2.2.2.2.1 zb.1.2.2.2.2.2.2.2.2.1 zb.1.2.2.2.2.2.2.2.2.2.1 zb.1.2.2.2.2.2.2.2.2.2.2.1 zb.1.2.2.2.2.2.2.2.2.2.2.2).2.1,(Hv bQ aU bt aV bo zb.1.1 zb.1.2.1 zb.1.2.2.1 zb.1.2.2.2.1 zb.1.2.2.2.2.1 zb.1.2.2.2.2.2.1 zb.1.2.2.2.2.2.2.1 zb.1.2.2.2.2.2.2.2.1 zb.1.2.2.2.2.2.2.2.2.1 zb.1.2.2.2.2.2.2.2.2.2.1 zb.1.2.2.2.2.2.2.2.2.2.2.1 zb.1.2.2.2.2.2.2.2.2.2.2.2).2.2)))
     else
      r=(([],aU,aV,bo))))
    else
     if m1 0=7 then
      (PA ((aV[((m1 3)-1).toNat]!).1) ((aV[((m1 3)-1).toNat]!).2.1) ((aV[((m1 3)-1).toNat]!).2.2.1) ((aV[((m1 3)-1).toNat]!).2.2.2.1) ((aV[((m1 3)-1).toNat]!).2.2.2.2.1) ((aV[((m1 3)-1).toNat]!).2.2.2.2.2.1) ((aV[((m1 3)-1).toNat]!).2.2.2.2.2.2.1) ((aV[((m1 3)-1).toNat]!).2.2.2.2.2.2.2.1) ((aV[((m1 3)-1).toNat]!).2.2.2.2.2.2.2.2.1) ((aV[((m1 3)-1).toNat]!).2.2.2.2.2.2.2.2.2.1) ((aV[((m1 3)-1).toNat]!).2.2.2.2.2.2.2.2.2.2.1) ((aV[((m1 3)-1).toNat]!).2.2.2.2.2.2.2.2.2.2.2) m1)/\(
      ∃ zc:UT×Int,zc=(SU ((aV[((m1 3)-1).toNat]!).1) ((aV[((m1 3)-1).toNat]!).2.1) ((aV[((m1 3)-1).toNat]!).2.2.1) ((aV[((m1 3)-1).toNat]!).2.2.2.1) ((aV[((m1 3)-1).toNat]!).2.2.2.2.1) ((aV[((m1 3)-1).toNat]!).2.2.2.2.2.1) ((aV[((m1 3)-1).toNat]!).2.2.2.2.2.2.1) ((aV[((m1 3)-1).toNat]!).2.2.2.2.2.2.2.1) ((aV[((m1 3)-1).toNat]!).2.2.2.2.2.2.2.2.1) ((aV[((m1 3)-1).toNat]!).2.2.2.2.2.2.2.2.2.1) ((aV[((m1 3)-1).toNat]!).2.2.2.2.2.2.2.2.2.2.1) ((aV[((m1 3)-1).toNat]!).2.2.2.2.2.2.2.2.2.2.2) m1)/\(
      if zc.2=0 then
       (Jt bQ aU bt aV bo zc.1.1 zc.1.2.1 zc.1.2.2.1 zc.1.2.2.2.1 zc.1.2.2.2.2.1 zc.1.2.2.2.2.2.1 zc.1.2.2.2.2.2.2.1 zc.1.2.2.2.2.2.2.2.1 zc.1.2.2.2.2.2.2.2.2.1 zc.1.2.2.2.2.2.2.2.2.2.1 zc.1.2.2.2.2.2.2.2.2.2.2.1 zc.1.2.2.2.2.2.2.2.2.2.2.2)/\(
       r=(([],(Hv bQ aU bt aV bo zc.1.1 zc.1.2.1 zc.1.2.2.1 zc.1.2.2.2.1 zc.1.2.2.2.2.1 zc.1.2.2.2.2.2.1 zc.1.2.2.2.2.2.2.1 zc.1.2.2.2.2.2.2.2.1 zc.1.2.2.2.2.2.2.2.2.1 zc.1.2.2.2.2.2.2.2.2.2.1 zc.1.2.2.2.2.2.2.2.2.2.2.1 zc.1.2.2.2.2.2.2.2.2.2.2.2).1,(Hv bQ aU bt aV bo zc.1.1 zc.1.2.1 zc.1.2.2.1 zc.1.2.2.2.1 zc.1.2.2.2.2.1 zc.1.2.2.2.2.2.1 zc.1.2.2.2.2.2.2.1 zc.1.2.2.2.2.2.2.2.1 zc.1.2.2.2.2.2.2.2.2.1 zc.1.2.2.2.2.2.2.2.2.2.1 zc.1.2.2.2.2.2.2.2.2.2.2.1 zc.1.2.2.2.2.2.2.2.2.2.2.2).2.1,(Hv bQ aU bt aV bo zc.1.1 zc.1.2.1 zc.1.2.2.1 zc.1.2.2.2.1 zc.1.2.2.2.2.1 zc.1.2.2.2.2.2.1 zc.1.2.2.2.2.2.2.1 zc.1.2.2.2.2.2.2.2.1 zc.1.2.2.2.2.2.2.2.2.1 zc.1.2.2.2.2.2.2.2.2.2.1 zc.1.2.2.2.2.2.2.2.2.2.2.1 zc.1.2.2.2.2.2.2.2.2.2.2.2).2.2)))
      else
       r=(([],aU,aV,bo))))
     else
      if m1 0=9 then
       (KR bQ aU bt aV bo (m1 3) 5 2)/\(
       r=(((Hn bQ aU bt aV bo (m1 3) 5 2).1,(Hn bQ aU bt aV bo (m1 3) 5 2).2.1,(Hn bQ aU bt aV bo (m1 3) 5 2).2.2.1,(Hn bQ aU bt aV bo (m1 3) 5 2).2.2.2)))
      else
       if m1 0=10 then
        (JX bQ aU bt aV bo (m1 9))/\(
        if((!((nz (bQ 1))))&&((decide ((IG bQ aU bt aV bo (m1 9))=1))||(decide ((IG bQ aU bt aV bo (m1 9))=2))))=true then
         (KR bQ aU bt aV bo (m1 3) 3 1)/\(
         r=(((Hn bQ aU bt aV bo (m1 3) 3 1).1,(Hn bQ aU bt aV bo (m1 3) 3 1).2.1,(Hn bQ aU bt aV bo (m1 3) 3 1).2.2.1,(Hn bQ aU bt aV bo (m1 3) 3 1).2.2.2)))
        else
         r=(([],aU,aV,bo)))
       else
        r=(([],aU,aV,bo)))))
def Jv (bQ:NI) (aU:LM) (bt:Int) (aV:(List UT)) (bo:LM) (m1:NI):LM×LM×(List UT)×LM:=
 if m1 0=11 then
  ((Ju bQ aU bt aV bo m1).1,(Ju bQ aU bt aV bo m1).2.1,(Ju bQ aU bt aV bo m1).2.2.1,(Ju bQ aU bt aV bo m1).2.2.2)
 else
  if(IG bQ aU bt aV bo (m1 3))=0 then
   ([],aU,aV,bo)
  else
   if((decide (m1 0=2))||(decide (m1 0=3)))=true then
    (fun(za:UT×Int)=>
     if za.2=0 then
      ([],(Hv bQ aU bt aV bo za.1.1 za.1.2.1 za.1.2.2.1 za.1.2.2.2.1 za.1.2.2.2.2.1 za.1.2.2.2.2.2.1 za.1.2.2.2.2.2.2.1 za.1.2.2.2.2.2.2.2.1 za.1.2.2.2.2.2.2.2.2.1 za.1.2.2.2.2.2.2.2.2.2.1 za.1.2.2.2.2.2.2.2.2.2.2.1 za.1.2.2.2.2.2.2.2.2.2.2.2).1,(Hv bQ aU bt aV bo za.1.1 za.1.2.1 za.1.2.2.1 za.1.2.2.2.1 za.1.2.2.2.2.1 za.1.2.2.2.2.2.1 za.1.2.2.2.2.2.2.1 za.1.2.2.2.2.2.2.2.1 za.1.2.2.2.2.2.2.2.2.1 za.1.2.2.2.2.2.2.2.2.2.1 za.1.2.2.2.2.2.2.2.2.2.2.1 za.1.2.2.2.2.2.2.2.2.2.2.2).2.1,((Hv bQ aU bt aV bo za.1.1 za.1.2.1 za.1.2.2.1 za.1.2.2.2.1 za.1.2.2.2.2.1 za.1.2.2.2.2.2.1 za.1.2.2.2.2.2.2.1 za.1.2.2.2.2.2.2.2.1 za.1.2.2.2.2.2.2.2.2.1 za.1.2.2.2.2.2.2.2.2.2.1 za.1.2.2.2.2.2.2.2.2.2.2.1 za.1.2.2.2.2.2.2.2.2.2.2.2).2.2++[(if m1 0=2 then(Gq (GX (Gq (Gq (fun _=>0) 0 3) 2 (m1 3)) 3 2 ((aV[((m1 3)-1).toNat]!).2.2.2.2.2.2.1)) 5 (m1 7)) else(Gq (GX (Gq (Gq (fun _=>0) 0 4) 2 (m1 3)) 3 2 ((aV[((m1 3)-1).toNat]!).2.2.2.2.2.2.1)) 6 (m1 8)))]))
     else
      ([],aU,aV,bo)) ((KJ ((aV[((m1 3)-1).toNat]!).1) ((aV[((m1 3)-1).toNat]!).2.1) ((aV[((m1 3)-1).toNat]!).2.2.1) ((aV[((m1 3)-1).toNat]!).2.2.2.1) ((aV[((m1 3)-1).toNat]!).2.2.2.2.1) ((aV[((m1 3)-1).toNat]!).2.2.2.2.2.1) ((aV[((m1 3)-1).toNat]!).2.2.2.2.2.2.1) ((aV[((m1 3)-1).toNat]!).2.2.2.2.2.2.2.1) ((aV[((m1 3)-1).toNat]!).2.2.2.2.2.2.2.2.1) ((aV[((m1 3)-1).toNat]!).2.2.2.2.2.2.2.2.2.1) ((aV[((m1 3)-1).toNat]!).2.2.2.2.2.2.2.2.2.2.1) ((aV[((m1 3)-1).toNat]!).2.2.2.2.2.2.2.2.2.2.2) m1))
   else
    if m1 0=5 then
     (fun(zb:UT×LM×Int)=>
      if zb.2.2=0 then
       (zb.2.1,(Hv bQ aU bt aV bo zb.1.1 zb.1.2.1 zb.1.2.2.1 zb.1.2.2.2.1 zb.1.2.2.2.2.1 zb.1.2.2.2.2.2.1 zb.1.2.2.2.2.2.2.1 zb.1.2.2.2.2.2.2.2.1 zb.1.2.2.2.2.2.2.2.2.1 zb.1.2.2.2.2.2.2.2.2.2.1 zb.1.2.2.2.2.2.2.2.2.2.2.1 zb.1.2.2.2.2.2.2.2.2.2.2.2).1,(Hv bQ aU bt aV bo zb.1.1 zb.1.2.1 zb.1.2.2.1 zb.1.2.2.2.1 zb.1.2.2.2.2.1 zb.1.2.2.2.2.2.1 zb.1.2.2.2.2.2.2.1 zb.1.2.2.2.2.2.2.2.1 zb.1.2.2.2.2.2.2.2.2.1 zb.1.2.2.2.2.2.2.2.2.2.1 zb.1.2.2.2.2.2.2.2.2.2.2.1 zb.1.2.2.2.2.2.2.2.2.2.2.2).2.1,(Hv bQ aU bt aV bo zb.1.1 zb.1.2.1 zb.1.2.2.1 zb.1.2.2.2.1 zb.1.2.2.2.2.1 zb.1.2.2.2.2.2.1 zb.1.2.2.2.2.2.2.1 zb.1.2.2.2.2.2.2.2.1 zb.1.2.2.2.2.2.2.2.2.1 zb.1.2.2.2.2.2.2.2.2.2.1 zb.1.2.2.2.2.2.2.2.2.2.2.1 zb.1.2.2.2.2.2.2.2.2.2.2.2).2.2)
      else
       ([],aU,aV,bo)) ((Ov ((aV[((m1 3)-1).toNat]!).1) ((aV[((m1 3)-1).toNat]!).2.1) ((aV[((m1 3)-1).toNat]!).2.2.1) ((aV[((m1 3)-1).toNat]!).2.2.2.1) ((aV[((m1 3)-1).toNat]!).2.2.2.2.1) ((aV[((m1 3)-1).toNat]!).2.2.2.2.2.1) ((aV[((m1 3)-1).toNat]!).2.2.2.2.2.2.1) ((aV[((m1 3)-1).toNat]!).2.2.2.2.2.2.2.1) ((aV[((m1 3)-1).toNat]!).2.2.2.2.2.2.2.2.1) ((aV[((m1 3)-1).toNat]!).2.2.2.2.2.2.2.2.2.1) ((aV[((m1 3)-1).toNat]!).2.2.2.2.2.2.2.2.2.2.1) ((aV[((m1 3)-1).toNat]!).2.2.2.2.2.2.2.2.2.2.2) m1))
    else
     if m1 0=7 then
      (fun(zc:UT×Int)=>
       if zc.2=0 then
        ([],(Hv bQ aU bt aV bo zc.1.1 zc.1.2.1 zc.1.2.2.1 zc.1.2.2.2.1 zc.1.2.2.2.2.1 zc.1.2.2.2.2.2.1 zc.1.2.2.2.2.2.2.1 zc.1.2.2.2.2.2.2.2.1 zc.1.2.2.2.2.2.2.2.2.1 zc.1.2.2.2.2.2.2.2.2.2.1 zc.1.2.2.2.2.2.2.2.2.2.2.1 zc.1.2.2.2.2.2.2.2.2.2.2.2).1,(Hv bQ aU bt aV bo zc.1.1 zc.1.2.1 zc.1.2.2.1 zc.1.2.2.2.1 zc.1.2.2.2.2.1 zc.1.2.2.2.2.2.1 zc.1.2.2.2.2.2.2.1 zc.1.2.2.2.2.2.2.2.1 zc.1.2.2.2.2.2.2.2.2.1 zc.1.2.2.2.2.2.2.2.2.2.1 zc.1.2.2.2.2.2.2.2.2.2.2.1 zc.1.2.2.2.2.2.2.2.2.2.2.2).2.1,(Hv bQ aU bt aV bo zc.1.1 zc.1.2.1 zc.1.2.2.1 zc.1.2.2.2.1 zc.1.2.2.2.2.1 zc.1.2.2.2.2.2.1 zc.1.2.2.2.2.2.2.1 zc.1.2.2.2.2.2.2.2.1 zc.1.2.2.2.2.2.2.2.2.1 zc.1.2.2.2.2.2.2.2.2.2.1 zc.1.2.2.2.2.2.2.2.2.2.2.1 zc.1.2.2.2.2.2.2.2.2.2.2.2).2.2)
       else
        ([],aU,aV,bo)) ((SU ((aV[((m1 3)-1).toNat]!).1) ((aV[((m1 3)-1).toNat]!).2.1) ((aV[((m1 3)-1).toNat]!).2.2.1) ((aV[((m1 3)-1).toNat]!).2.2.2.1) ((aV[((m1 3)-1).toNat]!).2.2.2.2.1) ((aV[((m1 3)-1).toNat]!).2.2.2.2.2.1) ((aV[((m1 3)-1).toNat]!).2.2.2.2.2.2.1) ((aV[((m1 3)-1).toNat]!).2.2.2.2.2.2.2.1) ((aV[((m1 3)-1).toNat]!).2.2.2.2.2.2.2.2.1) ((aV[((m1 3)-1).toNat]!).2.2.2.2.2.2.2.2.2.1) ((aV[((m1 3)-1).toNat]!).2.2.2.2.2.2.2.2.2.2.1) ((aV[((m1 3)-1).toNat]!).2.2.2.2.2.2.2.2.2.2.2) m1))
     else
      if m1 0=9 then
       ((Hn bQ aU bt aV bo (m1 3) 5 2).1,(Hn bQ aU bt aV bo (m1 3) 5 2).2.1,(Hn bQ aU bt aV bo (m1 3) 5 2).2.2.1,(Hn bQ aU bt aV bo (m1 3) 5 2).2.2.2)
      else
       if m1 0=10 then
        if((!((nz (bQ 1))))&&((decide ((IG bQ aU bt aV bo (m1 9))=1))||(decide ((IG bQ aU bt aV bo (m1 9))=2))))=true then
         ((Hn bQ aU bt aV bo (m1 3) 3 1).1,(Hn bQ aU bt aV bo (m1 3) 3 1).2.1,(Hn bQ aU bt aV bo (m1 3) 3 1).2.2.1,(Hn bQ aU bt aV bo (m1 3) 3 1).2.2.2)
        else
         ([],aU,aV,bo)
       else
        ([],aU,aV,bo)
def P8 (bQ:NI) (aU:LM) (bt:Int) (aV:(List UT)) (bo:LM) (m1:NI):Prop:=
 if m1 0=11 then
  (KC bQ aU bt aV bo m1)/\(
  True)
 else
  (JX bQ aU bt aV bo (m1 3))/\(
  if(IG bQ aU bt aV bo (m1 3))=0 then
   True
  else
   (GN ((m1 3)-1))/\(
   (0<=(m1 3)-1/\(m1 3)-1<aV.length)/\(
   if((decide (m1 0=2))||(decide (m1 0=3)))=true then
    (JB ((aV[((m1 3)-1).toNat]!).1) ((aV[((m1 3)-1).toNat]!).2.1) ((aV[((m1 3)-1).toNat]!).2.2.1) ((aV[((m1 3)-1).toNat]!).2.2.2.1) ((aV[((m1 3)-1).toNat]!).2.2.2.2.1) ((aV[((m1 3)-1).toNat]!).2.2.2.2.2.1) ((aV[((m1 3)-1).toNat]!).2.2.2.2.2.2.1) ((aV[((m1 3)-1).toNat]!).2.2.2.2.2.2.2.1) ((aV[((m1 3)-1).toNat]!).2.2.2.2.2.2.2.2.1) ((aV[((m1 3)-1).toNat]!).2.2.2.2.2.2.2.2.2.1) ((aV[((m1 3)-1).toNat]!).2.2.2.2.2.2.2.2.2.2.1) ((aV[((m1 3)-1).toNat]!).2.2.2.2.2.2.2.2.2.2.2) m1)/\(
    (fun(za:UT×Int)=>
     if za.2=0 then
      (Jt bQ aU bt aV bo za.1.1 za.1.2.1 za.1.2.2.1 za.1.2.2.2.1 za.1.2.2.2.2.1 za.1.2.2.2.2.2.1 za.1.2.2.2.2.2.2.1 za.1.2.2.2.2.2.2.2.1 za.1.2.2.2.2.2.2.2.2.1 za.1.2.2.2.2.2.2.2.2.2.1 za.1.2.2.2.2.2.2.2.2.2.2.1 za.1.2.2.2.2.2.2.2.2.2.2.2)/\(
      ((((Hv bQ aU bt aV bo za.1.1 za.1.2.1 za.1.2.2.1 za.1.2.2.2.1 za.1.2.2.2.2.1 za.1.2.2.2.2.2.1 za.1.2.2.2.2.2.2.1 za.1.2.2.2.2.2.2.2.1 za.1.2.2.2.2.2.2.2.2.1 za.1.2.2.2.2.2.2.2.2.2.1 za.1.2.2.2.2.2.2.2.2.2.2.1 za.1.2.2.2.2.2.2.2.2.2.2.2).2.2).length+1)*56<=140737488355328)/\(
      True))
     else
      True) ((KJ ((aV[((m1 3)-1).toNat]!).1) ((aV[((m1 3)-1).toNat]!).2.1) ((aV[((m1 3)-1).toNat]!).2.2.1) ((aV[((m1 3)-1).toNat]!).2.2.2.1) ((aV[((m1 3)-1).toNat]!).2.2.2.2.1) ((aV[((m1 3)-1).toNat]!).2.2.2.2.2.1) ((aV[((m1 3)-1).toNat]!).2.2.2.2.2.2.1) ((aV[((m1 3)-1).toNat]!).2.2.2.2.2.2.2.1) ((aV[((m1 3)-1).toNat]!).2.2.2.2.2.2.2.2.1) ((aV[((m1 3)-1).toNat]!).2.2.2.2.2.2.2.2.2.1) ((aV[((m1 3)-1).toNat]!).2.2.2.2.2.2.2.2.2.2.1) ((aV[((m1 3)-1).toNat]!).2.2.2.2.2.2.2.2.2.2.2) m1)))
   else
    if m1 0=5 then
     (T8 ((aV[((m1 3)-1).toNat]!).1) ((aV[((m1 3)-1).toNat]!).2.1) ((aV[((m1 3)-1).toNat]!).2.2.1) ((aV[((m1 3)-1).toNat]!).2.2.2.1) ((aV[((m1 3)-1).toNat]!).2.2.2.2.1) ((aV[((m1 3)-1).toNat]!).2.2.2.2.2.1) ((aV[((m1 3)-1).toNat]!).2.2.2.2.2.2.1) ((aV[((m1 3)-1).toNat]!).2.2.2.2.2.2.2.1) ((aV[((m1 3)-1).toNat]!).2.2.2.2.2.2.2.2.1) ((aV[((m1 3)-1).toNat]!).2.2.2.2.2.2.2.2.2.1) ((aV[((m1 3)-1).toNat]!).2.2.2.2.2.2.2.2.2.2.1) ((aV[((m1 3)-1).toNat]!).2.2.2.2.2.2.2.2.2.2.2) m1)/\(
     (fun(zb:UT×LM×Int)=>
      if zb.2.2=0 then
       (Jt bQ aU bt aV bo zb.1.1 zb.1.2.1 zb.1.2.2.1 zb.1.2.2.2.1 zb.1.2.2.2.2.1 zb.1.2.2.2.2.2.1 zb.1.2.2.2.2.2.2.1 zb.1.2.2.2.2.2.2.2.1 zb.1.2.2.2.2.2.2.2.2.1 zb.1.2.2.2.2.2.2.2.2.2.1 zb.1.2.2.2.2.2.2.2.2.2.2.1 zb.1.2.2.2.2.2.2.2.2.2.2.2)/\(
       True)
      else
       True) ((Ov ((aV[((m1 3)-1).toNat]!).1) ((aV[((m1 3)-1).toNat]!).2.1) ((aV[((m1 3)-1).toNat]!).2.2.1) ((aV[((m1 3)-1).toNat]!).2.2.2.1) ((aV[((m1 3)-1).toNat]!).2.2.2.2.1) ((aV[((m1 3)-1).toNat]!).2.2.2.2.2.1) ((aV[((m1 3)-1).toNat]!).2.2.2.2.2.2.1) ((aV[((m1 3)-1).toNat]!).2.2.2.2.2.2.2.1) ((aV[((m1 3)-1).toNat]!).2.2.2.2.2.2.2.2.1) ((aV[((m1 3)-1).toNat]!).2.2.2.2.2.2.2.2.2.1) ((aV[((m1 3)-1).toNat]!).2.2.2.2.2.2.2.2.2.2.1) ((aV[((m1 3)-1).toNat]!).2.2.2.2.2.2.2.2.2.2.2) m1)))
    else
     if m1 0=7 then
      (PA ((aV[((m1 3)-1).toNat]!).1) ((aV[((m1 3)-1).toNat]!).2.1) ((aV[((m1 3)-1).toNat]!).2.2.1) ((aV[((m1 3)-1).toNat]!).2.2.2.1) ((aV[((m1 3)-1).toNat]!).2.2.2.2.1) ((aV[((m1 3)-1).toNat]!).2.2.2.2.2.1) ((aV[((m1 3)-1).toNat]!).2.2.2.2.2.2.1) ((aV[((m1 3)-1).toNat]!).2.2.2.2.2.2.2.1) ((aV[((m1 3)-1).toNat]!).2.2.2.2.2.2.2.2.1) ((aV[((m1 3)-1).toNat]!).2.2.2.2.2.2.2.2.2.1) ((aV[((m1 3)-1).toNat]!).2.2.2.2.2.2.2.2.2.2.1) ((aV[((m1 3)-1).toNat]!).2.2.2.2.2.2.2.2.2.2.2) m1)/\(
      (fun(zc:UT×Int)=>
       if zc.2=0 then
        (Jt bQ aU bt aV bo zc.1.1 zc.1.2.1 zc.1.2.2.1 zc.1.2.2.2.1 zc.1.2.2.2.2.1 zc.1.2.2.2.2.2.1 zc.1.2.2.2.2.2.2.1 zc.1.2.2.2.2.2.2.2.1 zc.1.2.2.2.2.2.2.2.2.1 zc.1.2.2.2.2.2.2.2.2.2.1 zc.1.2.2.2.2.2.2.2.2.2.2.1 zc.1.2.2.2.2.2.2.2.2.2.2.2)/\(
        True)
       else
        True) ((SU ((aV[((m1 3)-1).toNat]!).1) ((aV[((m1 3)-1).toNat]!).2.1) ((aV[((m1 3)-1).toNat]!).2.2.1) ((aV[((m1 3)-1).toNat]!).2.2.2.1) ((aV[((m1 3)-1).toNat]!).2.2.2.2.1) ((aV[((m1 3)-1).toNat]!).2.2.2.2.2.1) ((aV[((m1 3)-1).toNat]!).2.2.2.2.2.2.1) ((aV[((m1 3)-1).toNat]!).2.2.2.2.2.2.2.1) ((aV[((m1 3)-1).toNat]!).2.2.2.2.2.2.2.2.1) ((aV[((m1 3)-1).toNat]!).2.2.2.2.2.2.2.2.2.1) ((aV[((m1 3)-1).toNat]!).2.2.2.2.2.2.2.2.2.2.1) ((aV[((m1 3)-1).toNat]!).2.2.2.2.2.2.2.2.2.2.2) m1)))
     else
      if m1 0=9 then
       (KR bQ aU bt aV bo (m1 3) 5 2)/\(
       True)
      else
       if m1 0=10 then
        (JX bQ aU bt aV bo (m1 9))/\(
        if((!((nz (bQ 1))))&&((decide ((IG bQ aU bt aV bo (m1 9))=1))||(decide ((IG bQ aU bt aV bo (m1 9))=2))))=true then
         (KR bQ aU bt aV bo (m1 3) 3 1)/\(
         True)
        else
         True)
       else
        True)))
theorem Zn {bQ aU bt aV bo m1} (hP:P8 bQ aU bt aV bo m1):Sp bQ aU bt aV bo m1 (Jv bQ aU bt aV bo m1):=OKW hP
def LL (bQ:NI) (aU:LM) (bt:Int) (bH:LM) (i5:Int) (zf:LM) (zd:(List UT)) (zg:LM) (o:(LM×Int×LM×(List UT)×LM) ⊕ (LM×LM×(List UT)×LM)):Prop:=
 if i5<((Iz aU (bt+1) (bQ 2)).length:Int) then
  (0<=i5/\i5<(Iz aU (bt+1) (bQ 2)).length)/\(
  (KR bQ zf (bt+1) zd zg ((Iz aU (bt+1) (bQ 2))[i5.toNat]!) 5 1)/\(
  ((bH.length+((Hn bQ zf (bt+1) zd zg ((Iz aU (bt+1) (bQ 2))[i5.toNat]!) 5 1).1).length)*224<=140737488355328)/\(
  (GN (i5+1))/\(
  o=(.inl ((bH++(Hn bQ zf (bt+1) zd zg ((Iz aU (bt+1) (bQ 2))[i5.toNat]!) 5 1).1),i5+1,(Hn bQ zf (bt+1) zd zg ((Iz aU (bt+1) (bQ 2))[i5.toNat]!) 5 1).2.1,(Hn bQ zf (bt+1) zd zg ((Iz aU (bt+1) (bQ 2))[i5.toNat]!) 5 1).2.2.1,(Hn bQ zf (bt+1) zd zg ((Iz aU (bt+1) (bQ 2))[i5.toNat]!) 5 1).2.2.2))))))
 else
  o=(.inr (bH,zf,zd,zg))
def My (zf:LM) (i6:Int) (dZ:Bool) (k8:Int) (o:(Bool×Int) ⊕ (Bool)):Prop:=
 if k8<(zf.length:Int) then
  (((dZ)=false)->0<=k8/\k8<zf.length)/\(((dZ)=false)->GN (i6+1))/\(((dZ)=false)->((decide ((zf[k8.toNat]!) 0=i6+1))=true)->0<=k8/\k8<zf.length)/\(
  (GN (k8+1))/\(
  o=(.inl ((dZ)||((decide ((zf[k8.toNat]!) 0=i6+1))&&(!((nz ((zf[k8.toNat]!) 1))))),k8+1))))
 else
  o=(.inr dZ)
def P4 (zd:(List UT)) (di:LM) (i6:Int) (dZ:Bool) (o:(LM×Int) ⊕ (LM)):Prop:=
 (0<=i6/\i6<zd.length)/\(
 (MN ((zd[i6.toNat]!).1) ((zd[i6.toNat]!).2.1) ((zd[i6.toNat]!).2.2.1) ((zd[i6.toNat]!).2.2.2.1) ((zd[i6.toNat]!).2.2.2.2.1) ((zd[i6.toNat]!).2.2.2.2.2.1) ((zd[i6.toNat]!).2.2.2.2.2.2.1) ((zd[i6.toNat]!).2.2.2.2.2.2.2.1) ((zd[i6.toNat]!).2.2.2.2.2.2.2.2.1) ((zd[i6.toNat]!).2.2.2.2.2.2.2.2.2.1) ((zd[i6.toNat]!).2.2.2.2.2.2.2.2.2.2.1) ((zd[i6.toNat]!).2.2.2.2.2.2.2.2.2.2.2) dZ)/\(
 ((di.length+(MP ((zd[i6.toNat]!).1) ((zd[i6.toNat]!).2.1) ((zd[i6.toNat]!).2.2.1) ((zd[i6.toNat]!).2.2.2.1) ((zd[i6.toNat]!).2.2.2.2.1) ((zd[i6.toNat]!).2.2.2.2.2.1) ((zd[i6.toNat]!).2.2.2.2.2.2.1) ((zd[i6.toNat]!).2.2.2.2.2.2.2.1) ((zd[i6.toNat]!).2.2.2.2.2.2.2.2.1) ((zd[i6.toNat]!).2.2.2.2.2.2.2.2.2.1) ((zd[i6.toNat]!).2.2.2.2.2.2.2.2.2.2.1) ((zd[i6.toNat]!).2.2.2.2.2.2.2.2.2.2.2) dZ).length)*224<=140737488355328)/\(
 (GN (i6+1))/\(
 o=(.inl ((di++(MP ((zd[i6.toNat]!).1) ((zd[i6.toNat]!).2.1) ((zd[i6.toNat]!).2.2.1) ((zd[i6.toNat]!).2.2.2.1) ((zd[i6.toNat]!).2.2.2.2.1) ((zd[i6.toNat]!).2.2.2.2.2.1) ((zd[i6.toNat]!).2.2.2.2.2.2.1) ((zd[i6.toNat]!).2.2.2.2.2.2.2.1) ((zd[i6.toNat]!).2.2.2.2.2.2.2.2.1) ((zd[i6.toNat]!).2.2.2.2.2.2.2.2.2.1) ((zd[i6.toNat]!).2.2.2.2.2.2.2.2.2.2.1) ((zd[i6.toNat]!).2.2.2.2.2.2.2.2.2.2.2) dZ)),i6+1))))))
def LJ (zf:LM) (zd:(List UT)) (di:LM) (i6:Int) (o:(LM×Int) ⊕ (LM)):Prop:=
 if i6<(zd.length:Int) then
  ∃ x:Bool,Wh (fun(s:Bool×Int) (o:(Bool×Int) ⊕ (Bool))=>My zf i6 s.1 s.2 o) ((false,0):Bool×Int) x/\P4 zd di i6 x o
 else
  o=(.inr di)
def Sk (bt:Int) (zf:LM) (zd:(List UT)) (zg di:LM) (r:LM×LM×Int×(List UT)×LM):Prop:=
 r=((di,zf,bt+1,zd,zg))
def P5 (bQ:NI) (bt:Int) (bH zf:LM) (zd:(List UT)) (zg:LM) (r:LM×LM×Int×(List UT)×LM):Prop:=
 ((bQ 3)≠0)/\(
 if(bt+1).tmod (bQ 3)=0 then
  ∃ x:LM,Wh (fun(s:LM×Int) (o:(LM×Int) ⊕ (LM))=>LJ zf zd s.1 s.2 o) ((bH,0):LM×Int) x/\Sk bt zf zd zg x r
 else
  r=((bH,zf,bt+1,zd,zg)))
def WJ (bQ:NI) (aU:LM) (bt:Int) (aV:(List UT)) (bo:LM) (r:LM×LM×Int×(List UT)×LM):Prop:=
 (GN (bt+1))/\(
 (Xc aU (bt+1) (bQ 2))/\(
 ∃ x:LM×LM×(List UT)×LM,Wh (fun(s:LM×Int×LM×(List UT)×LM) (o:(LM×Int×LM×(List UT)×LM) ⊕ (LM×LM×(List UT)×LM))=>LL bQ aU bt s.1 s.2.1 s.2.2.1 s.2.2.2.1 s.2.2.2.2 o) (([],0,aU,aV,bo):LM×Int×LM×(List UT)×LM) x/\P5 bQ bt x.1 x.2.1 x.2.2.1 x.2.2.2 r))
end Go.E
namespace Go.E
open Go
theorem Xo {l m:List Int} (hn:l.Nodup) (hm:∀ x,x∈l↔x∈m):Vd l=HL m:=by
 refine UA (Wb (RE l) ((OF l).nodup_iff.2 hn)) (VX m) fun x=>?_
 rw[Wm,UZ,hm]
end Go.E
namespace Go.E
open Go
theorem Adl {l:LM} {k j:Nat} {x:Nat->Int} (hk:k<l.length) (hj:j<l.length):(l.set k x)[j]! = if j=k then x else l[j]!:=by
 rw[getElem!_pos _ j (by simpa using hj),List.getElem_set,getElem!_pos l j hj]
 by_cases h:k=j
 .rw[Ae h,Ae h.symm]
 .rw[Af h,Af (fun e=>h e.symm)]
theorem AdB (l:LM) (tx:Int):(Jo l tx=0/\∀ j,j<l.length->0<tx->l[j]! 0≠tx)∨∃ j,j<l.length/\Jo l tx=(j:Int)+1/\0<tx/\l[j]! 0=tx:=by
 unfold Jo
 cases h:(List.range l.length).find? (Acx l tx) with
 | none=>
  refine .inl ⟨rfl,fun j hj h3 h4=>?_⟩
  have:=List.find?_eq_none.1 h j (List.mem_range.2 hj)
  exact this (by unfold Acx;simp only[Bool.and_eq_true,decide_eq_true_eq];exact⟨h3,h4⟩)
 | some j=>
  obtain⟨h1,h2,_⟩:=List.find?_range_eq_some.1 h
  unfold Acx at h1
  simp only[Bool.and_eq_true,decide_eq_true_eq] at h1
  exact .inr ⟨j,List.mem_range.1 h2,rfl,h1.1,h1.2⟩
structure Same16 (n:Int) (c:Nat->Int) (v:LM):Prop where
 i:Inv16 n c
 l:(v.length:Int)=n
 f:∀ j:Nat,j<v.length->v[j]! 0=c (1+(j+1)*3)/\nz (v[j]! 1)=nz (c (1+((j+1)*3+2)))/\v[j]! 2=c (1+((j+1)*3+1))
theorem Same16.of {n:Int} {c:Nat->Int} {v:LM} (h:Same16 n c v) (tx:Int):Jo v tx=L9 c tx:=by
 have hl:=h.l
 have hn:=h.i.n1
 rcases AdB v tx with ⟨h1,h2⟩ | ⟨j,hj,h1,h2,h3⟩
 .rcases h.i.of tx with ⟨h4,_⟩ | ⟨k,h4,h5,h6,h7⟩
  .rw[h1,h4]
  .have:=h2 (k-1) Aa Aa
   rw[(h.f (k-1) Aa).1,show k-1+1=k by omega] at this
   exact absurd h7 this
 .rw[(h.f j hj).1] at h3
  rcases h.i.of tx with ⟨h4,h5⟩ | ⟨k,h4,h5,h6,h7⟩
  .exact absurd h3 (h5 (j+1) Aa Aa)
  .have:=h.i.one (j+1) k Aa Aa (by rw[h3,h7]) (by rw[h3];omega)
   rw[h1,h4]
   omega
theorem ZQ {n:Int} {c:Nat->Int} (h:Inv16 n c) (now span:Int):(Nx c now span 9).Nodup:=by
 unfold Nx
 refine List.pairwise_map.2 ?_
 have:((List.range 9).filter (NZ c now span)).Pairwise fun i j=>i≠j:=List.nodup_range.sublist List.filter_sublist
 refine(List.Pairwise.and_mem.1 this).imp ?_
 rintro i j ⟨hi,hj,hne⟩ he
 obtain⟨hi,lv⟩:=List.mem_filter.1 hi
 have hi:=List.mem_range.1 hi
 have hj:=List.mem_range.1 (List.mem_filter.1 hj).1
 unfold NZ at lv
 simp only[Bool.and_eq_true,Bool.not_eq_true',decide_eq_false_iff_not] at lv
 exact hne (h.one i j hi hj he lv.1.2)
theorem Yx {c:Nat->Int} {now span x:Int}:x∈Nx c now span 9↔∃ j,j<9/\NZ c now span j=true/\c (1+j*3)=x:=by
 unfold Nx
 rw[List.mem_map]
 constructor
 .rintro⟨j,hj,rfl⟩
  obtain⟨h1,h2⟩:=List.mem_filter.1 hj
  exact⟨j,List.mem_range.1 h1,h2,rfl⟩
 .rintro⟨j,h1,h2,rfl⟩
  exact⟨j,List.mem_filter.2 ⟨List.mem_range.2 h1,h2⟩,rfl⟩
theorem Ad0 {n:Int} {c:Nat->Int} (h:Inv16 n c) {now span:Int} {j:Nat} (hj:j<9) (hb:NZ c now span j=true):1<=j/\(j:Int)<=n:=by
 unfold NZ at hb
 simp only[Bool.and_eq_true] at hb
 rcases(show(j=0∨n<j)∨(1<=j/\(j:Int)<=n) by omega) with h1 | h1
 .have:=(h.out j hj h1).2
  rw[hb.1.1] at this;cases this
 .exact h1
theorem Same16.lost {n:Int} {c:Nat->Int} {v:LM} (h:Same16 n c v) (now span:Int):HU c now span=Iz v now span:=by
 have hl:=h.l
 have hn:=h.i.n1
 unfold HU Iz
 have e:AeK now span=!(Jr now&&decide (0<=span)):=by
  unfold AeK Jr
  rw[Bool.eq_iff_iff]
  simp only[Bool.or_eq_true,decide_eq_true_eq,Bool.not_eq_true',Bool.and_eq_false_iff,decide_eq_false_iff_not]
  omega
 rw[e]
 by_cases ht:(Jr now&&decide (0<=span))=true
 .rw[ht,Af Ab,Ae rfl]
  refine Xo (ZQ h.i now span) fun x=>?_
  rw[Yx,List.mem_map]
  constructor
  .rintro⟨j,hj,hb,rfl⟩
   obtain⟨h1,h2⟩:=Ad0 h.i hj hb
   have hjl:j-1<v.length:=Aa
   obtain⟨f0,f1,f2⟩:=h.f (j-1) hjl
   rw[show j-1+1=j by omega] at f0 f1 f2
   refine⟨v[j-1]!,List.mem_filter.2 ⟨AdW hjl,?_⟩,f0⟩
   have:=h.i.tx j hj
   unfold NZ at hb
   unfold QF
   simp only[Bool.and_eq_true,Bool.not_eq_true',decide_eq_false_iff_not,decide_eq_true_eq] at hb ⊢
   rw[f0,f1,f2]
   exact⟨⟨hb.1.1,Aa⟩,hb.2⟩
  .rintro⟨y,hy,rfl⟩
   obtain⟨hy,hq⟩:=List.mem_filter.1 hy
   obtain⟨j,hj,rfl⟩:=List.getElem_of_mem hy
   obtain⟨f0,f1,f2⟩:=h.f j hj
   rw[getElem!_pos v j hj] at f0 f1 f2
   refine⟨j+1,Aa,?_,f0.symm⟩
   unfold QF at hq
   unfold NZ
   simp only[Bool.and_eq_true,Bool.not_eq_true',decide_eq_false_iff_not,decide_eq_true_eq] at hq ⊢
   rw[f0,f1,f2] at hq
   exact⟨⟨hq.1.1,Aa⟩,hq.2⟩
 .have ht':(Jr now&&decide (0<=span))=false:=by simpa using ht
  rw[ht',Ae Ab,Af Ab]
theorem Same16.PR {n:Int} {c:Nat->Int} {v:LM} (h:Same16 n c v) (now span:Int):Xc v now span:=by
 have hl:=h.l
 have hn:=h.i.n1
 refine⟨Aa,fun x hx=>?_⟩
 obtain⟨j,hj,rfl⟩:=List.getElem_of_mem hx
 have:=(h.f j hj).2.2
 rw[getElem!_pos v j hj] at this
 rw[this]
 exact h.i.si (j+1) Aa
theorem Same16.put {n:Int} {c:Nat->Int} {v:LM} (h:Same16 n c v) {k:Nat} {x:Int} (hk:1<=k/\(k:Int)<=n) (hi:Inv16 n (Gq c (1+k*3) x)):Same16 n (Gq c (1+k*3) x) (([]++v).set (k-1) (Gq (v[k-1]!) 0 x)):=by
 have hl:=h.l
 refine⟨hi,by simpa using h.l,fun j hj=>?_⟩
 rw[List.nil_append] at hj ⊢
 rw[List.length_set] at hj
 rw[Adl Aa hj,TC,AhL,AhK]
 by_cases hjk:j=k-1
 .obtain⟨f0,f1,f2⟩:=h.f j hj
  rw[Ae hjk,Ae Aa,<- hjk]
  exact⟨rfl,f1,f2⟩
 .rw[Af hjk,Af Aa]
  exact h.f j hj
theorem Same16.dead {n:Int} {c:Nat->Int} {v:LM} (h:Same16 n c v) {k:Nat} {now:Int} (hk:1<=k/\(k:Int)<=n) (hi:Inv16 n (M9 c k now)):Same16 n (M9 c k now) (([]++v).set (k-1) (Gq (Gq (v[k-1]!) 1 (bI true)) 2 now)):=by
 have hl:=h.l
 refine⟨hi,by simpa using h.l,fun j hj=>?_⟩
 rw[List.nil_append] at hj ⊢
 rw[List.length_set] at hj
 rw[Adl Aa hj,O1,AeD,AeC]
 by_cases hjk:j=k-1
 .obtain⟨f0,f1,f2⟩:=h.f j hj
  rw[Ae hjk,Ae Aa,Ae Aa,<- hjk]
  exact⟨f0,rfl,rfl⟩
 .rw[Af hjk,Af Aa,Af Aa]
  exact h.f j hj
theorem Same16.start {n:Int} (h:1<=n/\n<=8):Same16 n (Gq (fun _=>0) 0 n) (List.replicate n.toNat (fun _=>0)):=by
 have e:∀ k,(Gq (fun _=>0) 0 n) (1+k)=0:=fun k=>Af Aa
 refine⟨Inv16.start h,by simp;omega,fun j hj=>?_⟩
 rw[e,e,e,getElem!_pos _ j hj,List.getElem_replicate]
 exact⟨rfl,rfl,rfl⟩
theorem AeQ {n:Int} {c:Nat->Int} (h:Inv16 n c) (id:Int):Kl c id/\Jd c id=if id<1∨n<id then false else !(nz (c (1+(id.toNat*3+2)))):=by
 have hn:=h.n1
 unfold Kl Jd
 rw[h.c0]
 simp only[Bool.or_eq_true,decide_eq_true_eq,Nat.add_assoc]
 by_cases h1:id<1∨n<id
 .rw[Ae h1];exact⟨trivial,trivial⟩
 .rw[Af h1]
  exact⟨⟨⟨Aa,Aa⟩,trivial⟩,trivial⟩
end Go.E
namespace Go.E
open Go
structure Ck (c:Nat->Int) (s:KS) (a:Nat->Int) (k:Int) (t t':TT):Prop where
 keep:3<=t.2.1->t'.2.1=t.2.1/\t'.2.2.1=t.2.2.1
 w3:t.2.1<=2->t'.2.1=4->t'.2.2.1=3->a 0=5/\Pf (fun i=>a (5+i))=true/\a 5=10/\a 8=k/\nz (c 1)=false/\t.2.1=1/\((GU s.m (a 14)).2.1=1∨(GU s.m (a 14)).2.1=2)
 w4:t.2.1<=2->t'.2.1=4->t'.2.2.1=4->a 0=5/\nz (c 1)=true/\K3 (fun i=>a (5+i)) (Nu s.m)=true/\Nb (fun i=>a (5+i))=true/\k=(Ik (fun i=>a (5+i))).1
section
variable {c:Nat->Int} {s:KS} {a:Nat->Int} {k:Int} {t t':TT} {N:Int} {n:Nat}
theorem Ck.same (h1:t'.2.1=t.2.1) (h2:t'.2.2.1=t.2.2.1):Ck c s a k t t' where
 keep:=fun _=>⟨h1,h2⟩
 w3:=fun h3 h4=> Aa
 w4:=fun h3 h4=> Aa
theorem Ck.oth (h1:3<=t.2.1->t'.2.1=t.2.1/\t'.2.2.1=t.2.2.1) (h2:t'.2.1=4->t.2.1<=2->t'.2.2.1≠3/\t'.2.2.1≠4):Ck c s a k t t' where
 keep:=h1
 w3:=fun h3 h4 h5=>absurd h5 (h2 h4 h3).1
 w4:=fun h3 h4 h5=>absurd h5 (h2 h4 h3).2
theorem Aht {t:TT} {x:Int} {b:Nat->Int} {m:Int}:(Lc t x b m).1.2.1=t.2.1/\(Lc t x b m).1.2.2.1=t.2.2.1:=by
 unfold Lc Ts
 split
 .split
  .split
   .exact⟨rfl,rfl⟩
   .split <;> exact⟨rfl,rfl⟩
  .exact⟨rfl,rfl⟩
 .exact⟨rfl,rfl⟩
theorem Ahu {t:TT} {m:Nat->Int}:(NL t m).1.2.1=t.2.1/\(NL t m).1.2.2.1=t.2.2.1:=by
 unfold NL VO
 split
 .split
  .split <;> exact⟨rfl,rfl⟩
  .exact⟨rfl,rfl⟩
 .exact⟨rfl,rfl⟩
theorem Ahw {t:TT} {m:Nat->Int}:(QA t m).1.2.1=t.2.1/\(QA t m).1.2.2.1=t.2.2.1:=by
 unfold QA VQ
 split
 .split
  .split <;> exact⟨rfl,rfl⟩
  .exact⟨rfl,rfl⟩
 .exact⟨rfl,rfl⟩
end
end Go.E
namespace Go.E
open Go
theorem Ac4 (m:Nat->Int) (k:Nat) (h:∀ i,i<k->1<=m (12+i*2)):QM m k=0/\k=0∨∃ i,i<k/\QM m k=m (12+i*2):=by
 induction k with
 | zero=>exact .inl ⟨rfl,rfl⟩
 | succ k ih=>
  have hk:=h k Aa
  refine .inr ?_
  unfold QM
  rcases ih fun i hi=>h i (by omega) with ⟨i1,i2⟩ | ⟨i,i1,i2⟩
  .rw[Ae Aa];exact⟨k,Aa,rfl⟩
  .split
   .exact⟨k,Aa,rfl⟩
   .exact⟨i,Aa,i2⟩
section
variable {N:Int} {n:Nat} {s:KS}
theorem Ack (h:KI N n s) {m:Nat->Int} (hl:K3 m (Nu s.m)=true):JN m=true/\∀ i,i<(m 11).toNat->(1<=m (12+i*2)/\m (12+i*2)<=s.la)/\(GU s.m (m (12+i*2))).2.2.2.2.1=true/\(GU s.m (m (12+i*2))).2.2.2.1=m (12+i*2+1):=by
 unfold K3 at hl
 rw[Bool.and_eq_true,List.all_eq_true] at hl
 refine⟨hl.1,fun i hi=>?_⟩
 have ht:=hl.2 i (List.mem_range.2 hi)
 unfold NB at ht
 rw[List.any_eq_true] at ht
 obtain⟨x,hx,he⟩:=ht
 unfold Nu at hx
 obtain⟨k,hk,hx⟩:=List.mem_flatMap.1 hx
 unfold Tc at hx
 by_cases ho:(GU s.m k).2.2.2.2.1=true
 .rw[Ae ho,List.mem_singleton] at hx
  subst hx
  rw[H6] at he
  have e0:m (12+i*2)=k:=he 0 Aa
  have e1:m (12+i*2+1)=(GU s.m k).2.2.2.1:=he 1 Aa
  rw[e0]
  exact⟨(h.hk k).1 (Qk.1 hk),ho,e1.symm⟩
 .rw[Af ho] at hx;cases hx
end
section
variable {n:Nat} {s:KS}
end
end Go.E
namespace Go.E
open Go
def toM (m:Nat->Int) (shard:Int):Nat->Int:=Gq (Gq m 1 0) 2 shard
theorem AgF (m:Nat->Int) (shard:Int) (i:Nat) (h:3<=i):toM m shard i=m i:=by
 unfold toM
 simp only[Gq]
 rw[Af Aa,Af Aa]
end Go.E
namespace Go.E
open Go
theorem Yr {shard:Int} {m:Nat->Int} (hm:JN m=true):JN (Gq (Gq m 1 0) 2 shard)=true↔¬ ((decide (shard<1))||(decide (64<shard)))=true:=by
 obtain⟨h0,hk⟩:=(Ug m).1 hm
 rw[Ug]
 unfold Pf at hk ⊢
 simp only[Bool.and_eq_true] at hk
 have t:∀ i,3<=i->Gq (Gq m 1 0) 2 shard i=m i:=fun i h=>AgF m shard i h
 have t0:Gq (Gq m 1 0) 2 shard 0=11:=by simp[Gq,h0]
 have t1:Gq (Gq m 1 0) 2 shard 1=0:=by simp[Gq]
 have t2:Gq (Gq m 1 0) 2 shard 2=shard:=by simp[Gq]
 have e1:Oa (Gq (Gq m 1 0) 2 shard)=(decide (1<=shard)&&decide (shard<=64)):=by
  unfold Oa shB M3
  rw[t0,t1,t2,Ae rfl,Ae rfl]
 have e2:S1 (Gq (Gq m 1 0) 2 shard)=true:=by
  have:=hk.1.2
  unfold S1 at this ⊢
  rw[Af Aa,Af Aa,Af Aa,Af Aa,Af Aa,Ae h0] at this
  rw[Af Aa,Af Aa,Af Aa,Af Aa,Af Aa,Ae t0]
  unfold Pb at this ⊢
  rw[t 11 Aa,t 9 Aa,t 10 Aa]
  have hs:Pa (Gq (Gq m 1 0) 2 shard)=Pa m:=by
   funext i
   unfold Pa AdT
   rw[t 11 Aa,t (12+(i*2+0)) Aa,t (12+(i*2+1)) Aa]
   have:(fun k=>!decide (Gq (Gq m 1 0) 2 shard (12+k*2+0)=m (12+(i*2+0))))=fun k=>!decide (m (12+k*2+0)=m (12+(i*2+0))):=by
    funext k;rw[t _ Aa]
   rw[this]
  rw[hs];exact this
 have e3:IJ 28 (TS (Gq (Gq m 1 0) 2 shard)) (QI (Gq (Gq m 1 0) 2 shard))=true:=by
  have:=H6.1 hk.2
  rw[H6]
  intro i hi
  have g:=this i hi
  unfold TS QI at g ⊢
  rw[Af Aa,Af Aa,Af Aa,Af Aa,Af Aa,Ae h0] at g
  rw[Af Aa,Af Aa,Af Aa,Af Aa,Af Aa,Ae t0,t1,t2,t0]
  by_cases h3:3<=i
  .simp only[Gq,GX] at g ⊢
   rw[Af (by omega:¬ i=2),Af (by omega:¬ i=1),Af (by omega:¬ i=0)] at g ⊢
   simpa [show ¬ i=2 by omega,show ¬ i=1 by omega] using g
  .rcases(show i=0∨i=1∨i=2 by omega) with rfl | rfl | rfl <;> simp[Gq,GX,h0]
 rw[e1,e2,e3]
 simp only[t0,true_and,Bool.and_true,Bool.and_eq_true,decide_eq_true_eq,Bool.or_eq_true,not_or,Int.not_lt]
end Go.E
namespace Go.E
open Go
def GR (s:KS):List TT:=(List.range s.la.toNat).map fun k:Nat=>GU s.m ((k:Int)+1)
def evR (t:TT):Nat->Int:=Gq (Gq (Gq (fun _=>0) 0 (3+t.2.1)) 2 t.1) 6 t.2.2.1
theorem AaI {f:Nat->Int} {i:Nat} {x:Int} (h:f i=x):Gq f i x=f:=by
 funext j
 unfold Gq
 split
 .rename_i e;rw[e,h]
 .rfl
theorem Ahk {m:Nat} {t:TT} (ht:TIT m t) (h2:2<=t.2.1):evS t=[evR t]:=by
 have a1:1<=t.2.1/\t.2.1<=4:=ht.hst
 have a2:0<=t.2.2.1/\t.2.2.1<=5:=ht.hre
 have a3:t.2.1=4↔0<t.2.2.1:=ht.hre4
 unfold evS evR
 by_cases e2:t.2.1=2
 .rw[Ae e2,e2,AaI (show _=t.2.2.1 by show(0:Int)=t.2.2.1;omega)];rfl
 .rw[Af e2]
  by_cases e4:t.2.1=4
  .rw[Ae e4,e4];rfl
  .have e3:t.2.1=3:=Aa
   rw[Af e4,Ae e3,e3,AaI (show _=t.2.2.1 by show(0:Int)=t.2.2.1;omega)];rfl
def JJ (c:Nat->Int) (cls:LM) (ti:Int) (txs:List TT) (tr:LM) (t:TT):LM×List TT×LM:=Hv c cls ti txs tr t.1 t.2.1 t.2.2.1 t.2.2.2.1 t.2.2.2.2.1 t.2.2.2.2.2.1 t.2.2.2.2.2.2.1 t.2.2.2.2.2.2.2.1 t.2.2.2.2.2.2.2.2.1 t.2.2.2.2.2.2.2.2.2.1 t.2.2.2.2.2.2.2.2.2.2.1 t.2.2.2.2.2.2.2.2.2.2.2
def Af3 (c:Nat->Int) (cls:LM) (ti:Int) (txs:List TT) (tr:LM) (t:TT):Prop:=Jt c cls ti txs tr t.1 t.2.1 t.2.2.1 t.2.2.2.1 t.2.2.2.2.1 t.2.2.2.2.2.1 t.2.2.2.2.2.2.1 t.2.2.2.2.2.2.2.1 t.2.2.2.2.2.2.2.2.1 t.2.2.2.2.2.2.2.2.2.1 t.2.2.2.2.2.2.2.2.2.2.1 t.2.2.2.2.2.2.2.2.2.2.2
section
variable {N:Int} {n:Nat} {s:KS} {cls:LM}
theorem JR (h:KI N n s):((GR s).length:Int)=s.la:=by
 have:=h.hl
 unfold GR
 rw[List.length_map,List.length_range]
 omega
theorem Pi (h:KI N n s) {k:Int} (hk:1<=k/\k<=s.la):(GR s)[(k-1).toNat]! = GU s.m k:=by
 have hl:=JR h
 rw[getElem!_pos _ _ Aa]
 simp only[GR,List.getElem_map,List.getElem_range]
 congr 1
 omega
theorem Ae8 (h:KI N n s) {t:TT} (h1:1<=t.1/\t.1<=s.la):(GR s).set (t.1-1).toNat t=GR (Jq s t):=by
 have e:(Jq s t).la=s.la:=(Ot s t).2
 refine List.ext_getElem (by simp[GR,e]) fun i qO lv=>?_
 simp only[GR,List.getElem_set,List.getElem_map,List.getElem_range,AgH,MG]
 by_cases hc:(t.1-1).toNat=i
 .rw[Ae hc,Ae Aa]
 .rw[Af hc,Af Aa]
theorem Oh (h:KI N n s) (hn:n<=100001) (hS:Same16 N s.cl cls) (c:Nat->Int) (ti:Int) {m:Nat} {t:TT} (ht:TIT m t) (h1:1<=t.1/\t.1<=s.la) (hst:(GU s.m t.1).2.1=t.2.1∨2<=t.2.1) :
  Af3 c cls ti (GR s) s.tr t /\
  ∃ cls',Same16 N (Jq s t).cl cls'/\JJ c cls ti (GR s) s.tr t=(cls',GR (Jq s t),(Jq s t).tr):=by
 have hl:=JR h
 have hL:=h.hl
 have hr:=h.hr
 have hcl:=hS.l
 have hN:=hS.i.n1
 have hb:1<=t.2.1/\t.2.1<=4:=ht.hst
 have e0:(GR s).set (t.1-1).toNat (t.1,t.2.1,t.2.2.1,t.2.2.2.1,t.2.2.2.2.1,t.2.2.2.2.2.1,t.2.2.2.2.2.2.1,t.2.2.2.2.2.2.2.1,t.2.2.2.2.2.2.2.2.1,t.2.2.2.2.2.2.2.2.2.1,t.2.2.2.2.2.2.2.2.2.2.1,t.2.2.2.2.2.2.2.2.2.2.2)=GR (Jq s t):=Ae8 h h1
 have hi:GN (t.1-1):=by unfold GN;omega
 have hx:0<=t.1-1/\t.1-1<((GR s).length:Int):=⟨Aa,Aa⟩
 unfold Af3 JJ Jt Hv
 rw[e0,Pi h h1,hS.of]
 by_cases he:(GU s.m t.1).2.1=t.2.1
 .have e5:(Jq s t).tr=s.tr:=by unfold Jq;rw[Ae he]
  have e6:(Jq s t).cl=s.cl:=by unfold Jq;rw[Ae he]
  rw[Ae he,Ae he,e5,e6]
  exact⟨⟨hi,hx,hi,hx,trivial⟩,cls,hS,rfl⟩
 .have h2:2<=t.2.1:=hst.resolve_left he
  have e5:(Jq s t).tr=s.tr++[Gq (Gq (Gq (fun _=>0) 0 (3+t.2.1)) 2 t.1) 6 t.2.2.1]:=by
   unfold Jq;rw[Af he,Ahk ht h2];rfl
  have h3:GN (3+t.2.1):=by unfold GN;omega
  rw[Af he,Af he,e5]
  by_cases h4:2<t.2.1
  .have e6:(Jq s t).cl=Vv s.cl t.1:=by
    unfold Jq;rw[Af he];exact Ae Aa
   rw[Ae h4,Ae h4,e6]
   have hO:UO cls t.1:=by unfold UO;omega
   rcases hS.i.of t.1 with ⟨h5,_⟩ | ⟨j,h5,h6,h7,h8⟩
   .rw[Ae h5,Ae h5]
    refine⟨⟨hi,hx,hi,hx,h3,Aa,hO,trivial⟩,cls,?_,rfl⟩
    unfold Vv
    rw[Ae h5]
    exact hS
   .have e7:Vv s.cl t.1=Gq s.cl (1+j*3) 0:=by
     unfold Vv;rw[Af Aa,h5,Int.toNat_natCast]
    have e8:((j:Int)-1).toNat=j-1:=Aa
    rw[Af Aa,Af Aa,h5,e7,e8]
    have h9:GN ((j:Int)-1):=by unfold GN;omega
    exact⟨⟨hi,hx,hi,hx,h3,Aa,hO,h9,⟨Aa,Aa⟩,Aa,h9,⟨Aa,by simp;omega⟩,trivial⟩,_,hS.put h6 (e7▸YY hS.i t.1),rfl⟩
  .have e6:(Jq s t).cl=s.cl:=by
    unfold Jq;rw[Af he];exact Af Aa
   rw[Af h4,Af h4,e6]
   exact⟨⟨hi,hx,hi,hx,h3,Aa,trivial⟩,cls,hS,rfl⟩
theorem VS {t:TT} {re:Int} (hr:1<=re/\re<=5) (h:¬ (t.2.1=3∨t.2.1=4)):(IK t re).2.2=0/\(IK t re).1.2.1=4:=by
 unfold IK Le
 rw[Ae hr,Af h]
 exact⟨rfl,rfl⟩
theorem NQ (h:KI N n s) (hn:n<=100000) (hS:Same16 N s.cl cls) (c:Nat->Int) (ti:Int) {tx re mo:Int} {l:List Int} (ht:1<=tx/\tx<=s.la) (hre:1<=re/\re<=5) (hl:mo=1/\l=[1]∨mo=2/\l=[1,2]) :
  KR c cls ti (GR s) s.tr tx re mo /\
  ∃ cls',Same16 N (HC s tx re l).2.2.cl cls'/\Hn c cls ti (GR s) s.tr tx re mo=((HC s tx re l).1,cls',GR (HC s tx re l).2.2,(HC s tx re l).2.2.tr):=by
 have hL:=h.hl
 have hlen:=JR h
 obtain⟨hT,hk⟩:=h.hT tx ht.1 ht.2
 have hb:1<=(GU s.m tx).2.1/\(GU s.m tx).2.1<=4:=hT.hst
 have hi:GN (tx-1):=by unfold GN;omega
 have hx:0<=tx-1/\tx-1<((GR s).length:Int):=⟨Aa,Aa⟩
 have hin:(GU s.m tx).2.1∈l↔¬ mo<(GU s.m tx).2.1:=by
  rcases hl with ⟨rfl,rfl⟩ | ⟨rfl,rfl⟩
  .simp only[List.mem_singleton];omega
  .simp only[List.mem_cons,List.not_mem_nil,or_false];omega
 unfold KR Hn
 rw[Pi h ht]
 by_cases hc:mo<(GU s.m tx).2.1
 .have e:HC s tx re l=([],11,s):=Af fun e=>hin.1 e hc
  rw[Ae hc,Ae hc,e]
  exact⟨⟨hi,hx,trivial⟩,cls,hS,rfl⟩
 .have hnd:¬ ((GU s.m tx).2.1=3∨(GU s.m tx).2.1=4):=by rcases hl with ⟨rfl,_⟩ | ⟨rfl,_⟩ <;> omega
  obtain⟨z1,z2⟩:=VS hre hnd
  obtain⟨p,q⟩:=Wj hT re
  have e1:(Le (GU s.m tx).1 (GU s.m tx).2.1 (GU s.m tx).2.2.1 (GU s.m tx).2.2.2.1 (GU s.m tx).2.2.2.2.1 (GU s.m tx).2.2.2.2.2.1 (GU s.m tx).2.2.2.2.2.2.1 (GU s.m tx).2.2.2.2.2.2.2.1 (GU s.m tx).2.2.2.2.2.2.2.2.1 (GU s.m tx).2.2.2.2.2.2.2.2.2.1 (GU s.m tx).2.2.2.2.2.2.2.2.2.2.1 (GU s.m tx).2.2.2.2.2.2.2.2.2.2.2) re=IK (GU s.m tx) re:=rfl
  rw[Af hc,Af hc,q,e1]
  have e:HC s tx re l=((IK (GU s.m tx) re).2.1,0,Jq s (IK (GU s.m tx) re).1):=by
   unfold HC Lb
   rw[Ae (hin.2 hc),Ae z1]
  obtain⟨v1,cls',v2,v3⟩:=Oh h Aa hS c ti (t:=(IK (GU s.m tx) re).1) (Ty hT re) (by rw[VR,hk];exact ht) (.inr (by rw[z2];decide))
  rw[e]
  refine⟨⟨hi,hx,p,v1,trivial⟩,cls',v2,?_⟩
  show((IK (GU s.m tx) re).2.1,(JJ c cls ti (GR s) s.tr (IK (GU s.m tx) re).1).1,(JJ c cls ti (GR s) s.tr (IK (GU s.m tx) re).1).2.1,(JJ c cls ti (GR s) s.tr (IK (GU s.m tx) re).1).2.2)=_
  rw[v3]
end
end Go.E
namespace Go.E
open Go
def AaS (t:TT) (b:Bool):LM:=MP t.1 t.2.1 t.2.2.1 t.2.2.2.1 t.2.2.2.2.1 t.2.2.2.2.2.1 t.2.2.2.2.2.2.1 t.2.2.2.2.2.2.2.1 t.2.2.2.2.2.2.2.2.1 t.2.2.2.2.2.2.2.2.2.1 t.2.2.2.2.2.2.2.2.2.2.1 t.2.2.2.2.2.2.2.2.2.2.2 b
def Tu (cls:LM) (i:Int):Bool:=(List.range cls.length).any fun j=>decide ((cls[j]!) 0=i+1) && !(nz ((cls[j]!) 1))
def Tx (cls:LM) (txs:List TT) (k:Nat):LM:=AaS (txs[k]!) (Tu cls (k:Int))
def LA (cls:LM) (txs:List TT) (k:Nat):LM:=(List.range k).flatMap (Tx cls txs)
abbrev VP:=LM×LM×List TT×LM
def Wa (c:Nat->Int) (ti:Int) (p:VP) (tx:Int):VP:=
 (p.1++(Hn c p.2.1 ti p.2.2.1 p.2.2.2 tx 5 1).1,(Hn c p.2.1 ti p.2.2.1 p.2.2.2 tx 5 1).2.1,(Hn c p.2.1 ti p.2.2.1 p.2.2.2 tx 5 1).2.2.1,(Hn c p.2.1 ti p.2.2.1 p.2.2.2 tx 5 1).2.2.2)
def K2 (c:Nat->Int) (ti:Int) (l:List Int) (p:VP):VP:=l.foldl (Wa c ti) p
def Oo (c:Nat->Int) (cls:LM) (ti:Int) (txs:List TT) (tr:LM):VP:=K2 c (ti+1) (Iz cls (ti+1) (c 2)) ([],cls,txs,tr)
def AdU (c:Nat->Int) (ti:Int) (p:VP):LM:=if(ti+1).tmod (c 3)=0 then p.1++LA p.2.1 p.2.2.1 p.2.2.1.length else p.1
def JQ (c:Nat->Int) (cls:LM) (ti:Int) (txs:List TT) (tr:LM):LM×LM×Int×List TT×LM:=
 (AdU c ti (Oo c cls ti txs tr),(Oo c cls ti txs tr).2.1,ti+1,(Oo c cls ti txs tr).2.2.1,(Oo c cls ti txs tr).2.2.2)
def WK (c:Nat->Int) (cls:LM) (ti:Int) (txs:List TT) (tr:LM):Prop:=
 (∃ (N:Int) (n:Nat) (s:KS),KI N n s/\n<=90000/\Same16 N s.cl cls/\ti=s.ti/\txs=GR s/\tr=s.tr)/\c 3≠0
theorem TP (cls:LM) (txs:List TT) (k:Nat):LA cls txs (k+1)=LA cls txs k++Tx cls txs k:=by
 unfold LA
 rw[List.range_succ,List.flatMap_append,List.flatMap_singleton]
theorem ZR (c:Nat->Int) (ti:Int) (l:List Int) (a:Int) (p:VP):K2 c ti (l++[a]) p=Wa c ti (K2 c ti l p) a:=by
 unfold K2
 rw[List.foldl_append]
 rfl
section
variable {N:Int} {n:Nat} {s:KS} {cls:LM}
theorem Xb (h:KI N n s) {now span x:Int} (hx:x∈HU s.cl now span):1<=x/\x<=s.la:=by
 unfold HU at hx
 split at hx
 .cases hx
 .obtain⟨j,hj,hb,rfl⟩:=Yx.1 (Wm.1 hx)
  unfold NZ at hb
  simp only[Bool.and_eq_true,Bool.not_eq_true',decide_eq_false_iff_not] at hb
  have:=h.hb j hj hb.1.2
  omega
theorem RV (h:KI N n s) (hS:Same16 N s.cl cls) (c:Nat->Int) (ti:Int) (l:List Int) (hb:n+l.length<=100000) (hl:∀ x∈l,1<=x/\x<=s.la) (out:LM) :
  ∃ cls',Same16 N (Im l (out,s)).2.cl cls'/\K2 c ti l (out,cls,GR s,s.tr)=((Im l (out,s)).1,cls',GR (Im l (out,s)).2,(Im l (out,s)).2.tr):=by
 induction l generalizing n s cls out with
 | nil=>exact⟨cls,hS,rfl⟩
 | cons a l ih=>
  rw[List.length_cons] at hb
  have h1:=Mu h a 5 (l:=[1]) Ad
  have h3:=KN s a 5 [1]
  obtain⟨v1,DQ,v2,v3⟩:=NQ h Aa hS c ti (hl a (List.mem_cons_self ..)) (re:=5) (mo:=1) (l:=[1]) Aa (.inl ⟨rfl,rfl⟩)
  obtain⟨cls',w1,w2⟩:=ih h1 v2 Aa (fun x hx=>by rw[h3.2];exact hl x (List.mem_cons_of_mem _ hx)) (out++(HC s a 5 [1]).1)
  have e2:Wa c ti (out,cls,GR s,s.tr) a=(out++(HC s a 5 [1]).1,DQ,GR (HC s a 5 [1]).2.2,(HC s a 5 [1]).2.2.tr):=by
   unfold Wa
   dsimp only
   rw[v3]
  refine⟨cls',w1,?_⟩
  show K2 c ti l (Wa c ti (out,cls,GR s,s.tr) a)=_
  rw[e2,w2]
  rfl
theorem Aav (hS:Same16 N s.cl cls) (k:Nat):Tu cls (k:Int)=Jd s.cl (L9 s.cl ((k:Int)+1)):=by
 have hl:=hS.l
 have hn:=hS.i.n1
 rw[(AeQ hS.i _).2]
 unfold Tu
 rcases hS.i.of ((k:Int)+1) with ⟨h1,h2⟩ | ⟨j,h1,h2,h3,h4⟩
 .rw[h1,Ae Aa,List.any_eq_false]
  intro j hj
  have hj':=List.mem_range.1 hj
  have f:=(hS.f j hj').1
  have:=h2 (j+1) Aa Aa
  rw[decide_eq_false (by rw[f];exact this),Bool.false_and]
  exact Bool.false_ne_true
 .rw[h1,Af Aa,Int.toNat_natCast]
  cases hd:nz (s.cl (1+(j*3+2)))
  .rw[List.any_eq_true.2 ⟨j-1,List.mem_range.2 Aa,?_⟩]
   .rfl
   .obtain⟨f0,f1,_⟩:=hS.f (j-1) Aa
    rw[show j-1+1=j by omega] at f0 f1
    rw[f0,h4,f1,hd,decide_eq_true rfl];rfl
  .show _=false
   rw[List.any_eq_false]
   intro i hi
   have hi':=List.mem_range.1 hi
   obtain⟨f0,f1,_⟩:=hS.f i hi'
   rw[f0,f1]
   by_cases e:s.cl (1+(i+1)*3)=(k:Int)+1
   .have:=hS.i.one (i+1) j Aa Aa (e.trans h4.symm) Aa
    rw[this,hd,Bool.not_true,Bool.and_false]
    exact Bool.false_ne_true
   .rw[decide_eq_false e,Bool.false_and]
    exact Bool.false_ne_true
theorem T3 (h:KI N n s) {k:Nat} (hk:k<(GR s).length):(GR s)[k]! = GU s.m ((k:Int)+1)/\(1<=(k:Int)+1/\(k:Int)+1<=s.la):=by
 have hl:=JR h
 have:=Pi h (k:=(k:Int)+1) Aa
 rw[show((k:Int)+1-1).toNat=k by omega] at this
 exact⟨this,Aa,Aa⟩
theorem Tw (h:KI N n s) (hS:Same16 N s.cl cls) {k:Nat} (hk:k<(GR s).length):Tx cls (GR s) k=J8 s ((k:Int)+1):=by
 obtain⟨e,hr⟩:=T3 h hk
 unfold Tx J8
 rw[e,Aav hS]
 exact(Wg (h.hT _ hr.1 hr.2).1 _).2
theorem WE (h:KI N n s) (hS:Same16 N s.cl cls):LA cls (GR s) (GR s).length=(Hu s.m).flatMap (J8 s):=by
 have hl:=JR h
 have hL:=h.hl
 have e:s.la.toNat=(GR s).length:=Aa
 rw[h.keys,e]
 unfold LA
 rw[List.flatMap_def,List.flatMap_def,List.map_map]
 congr 1
 exact List.map_congr_left fun k hk=>Tw h hS (List.mem_range.1 hk)
theorem Rk (h:KI N n s) (hS:Same16 N s.cl cls):∀ k:Nat,k<=(GR s).length->(LA cls (GR s) k).length<=65*k
 | 0,_=>Nat.le_refl _
 | k+1,hk=>by
  have:=Rk h hS k Aa
  rw[TP,List.length_append,Tw h hS Aa]
  have:=O6 h (T3 h (k:=k) Aa).2
  omega
theorem XX {i:Int} (hi:GN (i+1)) (hl:cls.length<=1000):Wh (fun(s:Bool×Int) (o:(Bool×Int) ⊕ (Bool))=>My cls i s.1 s.2 o) ((false,0):Bool×Int) (Tu cls i):=by
 have:=aH (f:=fun(s:Bool×Int) (o:(Bool×Int) ⊕ (Bool))=>My cls i s.1 s.2 o) (fun k:Nat=>((List.range k).any (fun j=>decide ((cls[j]!) 0=i+1) && !(nz ((cls[j]!) 1))),(k:Int))) cls.length (r:=Tu cls i) (fun k hk=>by
  dsimp only
  unfold My
  rw[Ae Aa,Int.toNat_natCast,List.range_succ,List.any_append]
  refine⟨fun _=>⟨Aa,Aa⟩,fun _=>hi,fun _ _=>⟨Aa,Aa⟩,JK Aa,?_⟩
  simp only[List.any_cons,List.any_nil,Bool.or_false]
  rfl) (by
  dsimp only
  unfold My
  rw[Af Aa]
  rfl)
 exact this
end
theorem AcY {c:Nat->Int} {cls:LM} {ti:Int} {txs:List TT} {tr:LM} (hP:WK c cls ti txs tr):WJ c cls ti txs tr (JQ c cls ti txs tr):=by
 obtain⟨⟨N,n,s,h,hn,hS,rfl,rfl,rfl⟩,h3⟩:=hP
 have ht:=h.ht
 have hcl:=hS.l
 have hN:=hS.i.n1
 have hll:=Ob s.cl (s.ti+1) (c 2)
 have hin:∀ x∈Iz cls (s.ti+1) (c 2),1<=x/\x<=s.la:=fun x hx=>Xb h (now:=s.ti+1) (span:=c 2) (by rw[hS.lost];exact hx)
 rw[hS.lost] at hll
 refine⟨by unfold GN;omega,hS.PR _ _,Oo c cls s.ti (GR s) s.tr,?_,?_⟩
 .unfold Oo
  generalize hl:Iz cls (s.ti+1) (c 2)=l at hll hin
  have hf:∀ k:Nat,k<l.length->LL c cls s.ti (K2 c (s.ti+1) (l.take k) ([],cls,GR s,s.tr)).1 (k:Int) (K2 c (s.ti+1) (l.take k) ([],cls,GR s,s.tr)).2.1 (K2 c (s.ti+1) (l.take k) ([],cls,GR s,s.tr)).2.2.1 (K2 c (s.ti+1) (l.take k) ([],cls,GR s,s.tr)).2.2.2
    (.inl ((K2 c (s.ti+1) (l.take (k+1)) ([],cls,GR s,s.tr)).1,((k+1:Nat):Int),(K2 c (s.ti+1) (l.take (k+1)) ([],cls,GR s,s.tr)).2.1,(K2 c (s.ti+1) (l.take (k+1)) ([],cls,GR s,s.tr)).2.2.1,(K2 c (s.ti+1) (l.take (k+1)) ([],cls,GR s,s.tr)).2.2.2)):=by
   intro k hk
   have htl:(l.take k).length=k:=by rw[List.length_take];omega
   obtain⟨cls',w1,w2⟩:=RV h hS c (s.ti+1) (l.take k) Aa (fun x hx=>hin x (List.mem_of_mem_take hx)) []
   obtain⟨i1,i2,i3,i4⟩:=Mt h (l.take k) []
   rw[htl] at i1 i2
   rw[List.length_nil] at i2
   have e:((k+1:Nat):Int)=(k:Int)+1:=Aa
   have hx:l[k]! ∈ l:=by rw[getElem!_pos l k hk];exact List.getElem_mem _
   have kA:=hin _ hx
   obtain⟨v1,FZ,v2,v3⟩:=NQ i1 Aa w1 c (s.ti+1) (tx:=l[k]!) (by rw[i4];exact kA) (re:=5) (mo:=1) (l:=[1]) Aa (.inl ⟨rfl,rfl⟩)
   have a1:=O8 i1 l[k]! 5 (l:=[1]) Ad
   rw[Mo hk,ZR,w2,e]
   unfold LL Wa
   rw[hl,Ae Aa,Int.toNat_natCast]
   dsimp only
   refine⟨⟨Aa,Aa⟩,v1,?_,by unfold GN;omega,rfl⟩
   rw[v3]
   dsimp only
   omega
  have:=Wh.fold (f:=fun(s_:LM×Int×LM×(List TT)×LM) o=>LL c cls s.ti s_.1 s_.2.1 s_.2.2.1 s_.2.2.2.1 s_.2.2.2.2 o) l.length
   (fun k=>((K2 c (s.ti+1) (l.take k) ([],cls,GR s,s.tr)).1,(k:Int),(K2 c (s.ti+1) (l.take k) ([],cls,GR s,s.tr)).2.1,(K2 c (s.ti+1) (l.take k) ([],cls,GR s,s.tr)).2.2.1,(K2 c (s.ti+1) (l.take k) ([],cls,GR s,s.tr)).2.2.2))
   (K2 c (s.ti+1) l ([],cls,GR s,s.tr)) hf (by
   show LL c cls s.ti _ (l.length:Int) _ _ _ _
   unfold LL
   rw[hl,Af Aa,List.take_length])
  exact this
 .obtain⟨cls',w1,w2⟩:=RV h hS c (s.ti+1) (Iz cls (s.ti+1) (c 2)) Aa hin []
  obtain⟨i1,i2,i3,i4⟩:=Mt h (Iz cls (s.ti+1) (c 2)) []
  have e0:Oo c cls s.ti (GR s) s.tr=_:=w2
  have hcl':=w1.l
  unfold P5 JQ AdU
  rw[e0]
  dsimp only
  generalize Im (Iz cls (s.ti+1) (c 2)) ([],s)=p at *
  refine⟨h3,?_⟩
  have hlen:=JR i1
  have hla:=i1.hl
  rw[List.length_nil] at i2
  by_cases hz:(s.ti+1).tmod (c 3)=0
  .rw[Ae hz,Ae hz]
   refine⟨p.1++LA cls' (GR p.2) (GR p.2).length,?_,rfl⟩
   have hf:∀ k:Nat,k<(GR p.2).length->LJ cls' (GR p.2) (p.1++LA cls' (GR p.2) k) (k:Int) (.inl (p.1++LA cls' (GR p.2) (k+1),((k+1:Nat):Int))):=by
    intro k hk
    have e:((k+1:Nat):Int)=(k:Int)+1:=Aa
    obtain⟨e1,hr⟩:=T3 i1 hk
    have hT:=(i1.hT _ hr.1 hr.2).1
    have hlt:=Rk i1 w1 k Aa
    have oe:GN ((k:Int)+1):=by unfold GN;omega
    unfold LJ
    rw[Ae Aa,e]
    refine⟨Tu cls' (k:Int),XX oe Aa,?_⟩
    unfold P4
    rw[Int.toNat_natCast,TP,<- List.append_assoc]
    have hav:=Tw i1 w1 hk
    have hal:=O6 i1 hr
    rw[<- hav] at hal
    refine⟨⟨Aa,Aa⟩,?_,?_,oe,rfl⟩
    .rw[e1]
     exact(Wg hT _).1
    .have:(Tx cls' (GR p.2) k).length<=65:=hal
     unfold Tx AaS at this
     rw[List.length_append]
     omega
   have:=Wh.fold (f:=fun(s:LM×Int) (o:(LM×Int) ⊕ (LM))=>LJ cls' (GR p.2) s.1 s.2 o) (GR p.2).length (fun k=>(p.1++LA cls' (GR p.2) k,(k:Int))) (p.1++LA cls' (GR p.2) (GR p.2).length) hf (by
    show LJ cls' (GR p.2) _ ((GR p.2).length:Int) _
    unfold LJ
    rw[Af Aa])
   have e5:p.1++LA cls' (GR p.2) 0=p.1:=List.append_nil _
   rw[e5] at this
   exact this
  .rw[Af hz,Af hz]
section
variable {N:Int} {n:Nat} {s:KS} {cls:LM}
theorem AcZ (h:KI N n s) (hn:n<=80000) (hS:Same16 N s.cl cls) {c:Nat->Int} (h3:c 3≠0):WK c cls s.ti (GR s) s.tr /\
  ∃ cls',Same16 N (Kd c s).2.cl cls'/\JQ c cls s.ti (GR s) s.tr=((Kd c s).1,cls',s.ti+1,GR (Kd c s).2,(Kd c s).2.tr):=by
 refine⟨⟨⟨N,n,s,h,Aa,hS,rfl,rfl,rfl⟩,h3⟩,?_⟩
 have hll:=Ob s.cl (s.ti+1) (c 2)
 have hL:KI N (n+1) {s with ti:=s.ti+1}:=h.later
 obtain⟨cls',w1,w2⟩:=RV (s:={s with ti:=s.ti+1}) hL hS c (s.ti+1) (HU s.cl (s.ti+1) (c 2)) Aa (fun x hx=>Xb h hx) []
 obtain⟨i1,i2,i3,i4⟩:=Mt hL (HU s.cl (s.ti+1) (c 2)) []
 have e0:Oo c cls s.ti (GR s) s.tr=((Jn c s).1,cls',GR (Jn c s).2,(Jn c s).2.tr):=by
  unfold Oo
  rw[<- hS.lost]
  exact w2
 have w1':Same16 N (Jn c s).2.cl cls':=w1
 have i1':KI N _ (Jn c s).2:=i1
 have e2:=T6 c s
 refine⟨cls',by rw[e2];exact w1',?_⟩
 unfold JQ AdU
 rw[e0,e2]
 dsimp only
 rw[WE i1' w1']
 unfold Kd
 by_cases hz:(s.ti+1).tmod (c 3)=0
 .rw[Ae hz,Ae hz]
 .rw[Af hz,Af hz]
end
end Go.E
namespace Go.E
open Go
def Rp (ga:NI) (bx:LM) (bL:Int) (bP:(List UT)) (bG:LM) (a1:NI):LM×Int×Int×LM×Int×(List UT)×LM:=
 if((decide (a1 0=0))||((decide (a1 0=1))||((decide (a1 0=2))||(decide (a1 0=3)))))=true then
  ((NP ga bx bL bP bG (a1 0) (a1 1) (fun i=>a1 (2+i)) (a1 4)).1,0,(NP ga bx bL bP bG (a1 0) (a1 1) (fun i=>a1 (2+i)) (a1 4)).2.1,(NP ga bx bL bP bG (a1 0) (a1 1) (fun i=>a1 (2+i)) (a1 4)).2.2.1,bL,(NP ga bx bL bP bG (a1 0) (a1 1) (fun i=>a1 (2+i)) (a1 4)).2.2.2.1,(NP ga bx bL bP bG (a1 0) (a1 1) (fun i=>a1 (2+i)) (a1 4)).2.2.2.2)
 else
  if a1 0=4 then
   ([],(Jw ga bx bL bP bG (a1 1)).1,(Jw ga bx bL bP bG (a1 1)).2.1,(Jw ga bx bL bP bG (a1 1)).2.2.1,bL,(Jw ga bx bL bP bG (a1 1)).2.2.2.1,(Jw ga bx bL bP bG (a1 1)).2.2.2.2)
  else
   if a1 0=5 then
    if(Sq ga bx bL bP bG (fun i=>a1 (5+i)))=0 then
     ((Jv ga bx bL bP bG (fun i=>a1 (5+i))).1,0,0,(Jv ga bx bL bP bG (fun i=>a1 (5+i))).2.1,bL,(Jv ga bx bL bP bG (fun i=>a1 (5+i))).2.2.1,(Jv ga bx bL bP bG (fun i=>a1 (5+i))).2.2.2)
    else
     ([],0,(Sq ga bx bL bP bG (fun i=>a1 (5+i))),bx,bL,bP,bG)
   else
    if a1 0=6 then
     ((JQ ga bx bL bP bG).1,0,0,(JQ ga bx bL bP bG).2.1,(JQ ga bx bL bP bG).2.2.1,(JQ ga bx bL bP bG).2.2.2.1,(JQ ga bx bL bP bG).2.2.2.2)
    else
     ([],0,0,bx,bL,bP,bG)
def Mx (ga:NI) (bx:LM) (bL:Int) (bP:(List UT)) (bG:LM) (a1:NI) (k:(LM×Int×Int×LM×Int×(List UT)×LM)->Prop:=fun _=>True):Prop:=
 if((decide (a1 0=0))||((decide (a1 0=1))||((decide (a1 0=2))||(decide (a1 0=3)))))=true then
  (AaE ga bx bL bP bG (a1 0) (a1 1) (fun i=>a1 (2+i)) (a1 4))/\(
  k (((NP ga bx bL bP bG (a1 0) (a1 1) (fun i=>a1 (2+i)) (a1 4)).1,0,(NP ga bx bL bP bG (a1 0) (a1 1) (fun i=>a1 (2+i)) (a1 4)).2.1,(NP ga bx bL bP bG (a1 0) (a1 1) (fun i=>a1 (2+i)) (a1 4)).2.2.1,bL,(NP ga bx bL bP bG (a1 0) (a1 1) (fun i=>a1 (2+i)) (a1 4)).2.2.2.1,(NP ga bx bL bP bG (a1 0) (a1 1) (fun i=>a1 (2+i)) (a1 4)).2.2.2.2)))
 else
  if a1 0=4 then
   (MA ga bx bL bP bG (a1 1))/\(
   k (([],(Jw ga bx bL bP bG (a1 1)).1,(Jw ga bx bL bP bG (a1 1)).2.1,(Jw ga bx bL bP bG (a1 1)).2.2.1,bL,(Jw ga bx bL bP bG (a1 1)).2.2.2.1,(Jw ga bx bL bP bG (a1 1)).2.2.2.2)))
  else
   if a1 0=5 then
    if(Sq ga bx bL bP bG (fun i=>a1 (5+i)))=0 then
     (P8 ga bx bL bP bG (fun i=>a1 (5+i)))/\(
     k (((Jv ga bx bL bP bG (fun i=>a1 (5+i))).1,0,0,(Jv ga bx bL bP bG (fun i=>a1 (5+i))).2.1,bL,(Jv ga bx bL bP bG (fun i=>a1 (5+i))).2.2.1,(Jv ga bx bL bP bG (fun i=>a1 (5+i))).2.2.2)))
    else
     k (([],0,(Sq ga bx bL bP bG (fun i=>a1 (5+i))),bx,bL,bP,bG))
   else
    if a1 0=6 then
     (WK ga bx bL bP bG)/\(
     k (((JQ ga bx bL bP bG).1,0,0,(JQ ga bx bL bP bG).2.1,(JQ ga bx bL bP bG).2.2.1,(JQ ga bx bL bP bG).2.2.2.1,(JQ ga bx bL bP bG).2.2.2.2)))
    else
     k (([],0,0,bx,bL,bP,bG))
theorem AbK {ga bx bL bP bG a1} (hP:Mx ga bx bL bP bG a1):Mx ga bx bL bP bG a1 (Eq (Rp ga bx bL bP bG a1)):=Pc hP
def Mq (cD:(List UT)) (ea:(Int×Int×(List UT)×LM)) (i6:Int) (o:(Int) ⊕ ((Unit) ⊕ (Unit))):Prop:=
 if i6<(ea.2.2.1.length:Int) then
  (0<=i6/\i6<ea.2.2.1.length)/\(
  (0<=i6/\i6<cD.length)/\(
  (MI ((ea.2.2.1[i6.toNat]!).1) ((ea.2.2.1[i6.toNat]!).2.1) ((ea.2.2.1[i6.toNat]!).2.2.1) ((ea.2.2.1[i6.toNat]!).2.2.2.1) ((ea.2.2.1[i6.toNat]!).2.2.2.2.1) ((ea.2.2.1[i6.toNat]!).2.2.2.2.2.1) ((ea.2.2.1[i6.toNat]!).2.2.2.2.2.2.1) ((ea.2.2.1[i6.toNat]!).2.2.2.2.2.2.2.1) ((ea.2.2.1[i6.toNat]!).2.2.2.2.2.2.2.2.1) ((ea.2.2.1[i6.toNat]!).2.2.2.2.2.2.2.2.2.1) ((ea.2.2.1[i6.toNat]!).2.2.2.2.2.2.2.2.2.2.1) ((ea.2.2.1[i6.toNat]!).2.2.2.2.2.2.2.2.2.2.2) ((cD[i6.toNat]!).1) ((cD[i6.toNat]!).2.1) ((cD[i6.toNat]!).2.2.1) ((cD[i6.toNat]!).2.2.2.1) ((cD[i6.toNat]!).2.2.2.2.1) ((cD[i6.toNat]!).2.2.2.2.2.1) ((cD[i6.toNat]!).2.2.2.2.2.2.1) ((cD[i6.toNat]!).2.2.2.2.2.2.2.1) ((cD[i6.toNat]!).2.2.2.2.2.2.2.2.1) ((cD[i6.toNat]!).2.2.2.2.2.2.2.2.2.1) ((cD[i6.toNat]!).2.2.2.2.2.2.2.2.2.2.1) ((cD[i6.toNat]!).2.2.2.2.2.2.2.2.2.2.2))/\(
  if((RK ((ea.2.2.1[i6.toNat]!).1) ((ea.2.2.1[i6.toNat]!).2.1) ((ea.2.2.1[i6.toNat]!).2.2.1) ((ea.2.2.1[i6.toNat]!).2.2.2.1) ((ea.2.2.1[i6.toNat]!).2.2.2.2.1) ((ea.2.2.1[i6.toNat]!).2.2.2.2.2.1) ((ea.2.2.1[i6.toNat]!).2.2.2.2.2.2.1) ((ea.2.2.1[i6.toNat]!).2.2.2.2.2.2.2.1) ((ea.2.2.1[i6.toNat]!).2.2.2.2.2.2.2.2.1) ((ea.2.2.1[i6.toNat]!).2.2.2.2.2.2.2.2.2.1) ((ea.2.2.1[i6.toNat]!).2.2.2.2.2.2.2.2.2.2.1) ((ea.2.2.1[i6.toNat]!).2.2.2.2.2.2.2.2.2.2.2) ((cD[i6.toNat]!).1) ((cD[i6.toNat]!).2.1) ((cD[i6.toNat]!).2.2.1) ((cD[i6.toNat]!).2.2.2.1) ((cD[i6.toNat]!).2.2.2.2.1) ((cD[i6.toNat]!).2.2.2.2.2.1) ((cD[i6.toNat]!).2.2.2.2.2.2.1) ((cD[i6.toNat]!).2.2.2.2.2.2.2.1) ((cD[i6.toNat]!).2.2.2.2.2.2.2.2.1) ((cD[i6.toNat]!).2.2.2.2.2.2.2.2.2.1) ((cD[i6.toNat]!).2.2.2.2.2.2.2.2.2.2.1) ((cD[i6.toNat]!).2.2.2.2.2.2.2.2.2.2.2)))=true then
   (GN (i6+1))/\(
   o=(.inl (i6+1)))
  else
   o=(.inr (.inr ())))))
 else
  o=(.inr (.inl ()))
def QS (r:Bool):Prop:=
 r=(true)
def QR (r:Bool):Prop:=
 r=(false)
def RI (bu gu:NI) (fD fE:Int) (iX:UM) (gS:LM) (Ge:NI) (y6:LM) (sG:Int) (cD:(List UT)) (rz:LM) (r:Bool):Prop:=
 (Ue bu gu fD fE iX gS)/\(
 ∃ ea:(Int×Int×(List UT)×LM),ea=(Qn bu gu fD fE iX gS)/\(
 (((((!(decide (ea.1=sG)))||(!(decide (ea.2.1=(cD.length:Int)))))||(!(decide ((ea.2.2.1.length:Int)=(cD.length:Int)))))=false)->R7 ea.2.2.2 rz)/\(
 if((((!(decide (ea.1=sG)))||(!(decide (ea.2.1=(cD.length:Int)))))||(!(decide ((ea.2.2.1.length:Int)=(cD.length:Int)))))||(!((N9 ea.2.2.2 rz))))=true then
  r=(false)
 else
  ∃ x:(Unit) ⊕ (Unit),Wh (fun(s:Int) (o:(Int) ⊕ ((Unit) ⊕ (Unit)))=>Mq cD ea s o) (0:Int) x/\(match x with | .inl _=>QS r | .inr _=>QR r))))
end Go.E
namespace Go.E
open Go
theorem AfF {t:TT}:(PU t).1.2.1=t.2.1∨2<=(PU t).1.2.1:=by
 unfold PU Tq
 repeat' split
 all_goals first | exact .inl rfl | exact .inr (show(2:Int)<=3 by decide) | exact .inr (show(2:Int)<=2 by decide)
theorem Ac0 {t:TT} {m:Nat->Int}:(KQ t m).1.2.1=t.2.1∨2<=(KQ t m).1.2.1:=by
 unfold KQ O9
 repeat' split
 all_goals first | exact .inl rfl | exact .inr (show(2:Int)<=4 by decide) | exact .inr (show(2:Int)<=3 by decide)
section
variable {N:Int} {n:Nat} {s:KS} {cls:LM}
theorem Aap (hS:Same16 N s.cl cls) {id:Int} (hi:1<=id/\id<=N):(cls[(id-1).toNat]!) 0=s.cl (1+id.toNat*3)/\nz ((cls[(id-1).toNat]!) 1)=nz (s.cl (1+(id.toNat*3+2))):=by
 have hl:=hS.l
 have:=hS.f (id-1).toNat Aa
 rw[show(id-1).toNat+1=id.toNat by omega] at this
 exact⟨this.1,this.2.1⟩
theorem Ua (hS:Same16 N s.cl cls) {id:Int}:((decide (id<1))||(decide ((cls.length:Int)<id)))=true↔(id<1∨N<id):=by
 have hl:=hS.l
 rw[Bool.or_eq_true,decide_eq_true_iff,decide_eq_true_iff]
 omega
theorem AaG (hS:Same16 N s.cl cls) (c:Nat->Int) (ti:Int) (txs:List TT) (tr:LM) (id:Int):Ok c cls ti txs tr id/\L3 c cls ti txs tr id=HV N s.cl id:=by
 have hl:=hS.l
 have hN:=hS.i.n1
 unfold Ok L3 HV
 by_cases h1:id<1∨N<id
 .have h1':=(Ua hS).2 h1
  rw[Ae h1',Ae h1',Ae h1]
  exact⟨trivial,rfl⟩
 .have h1':=fun e=>h1 ((Ua hS).1 e)
  obtain⟨f0,f1⟩:=Aap hS (id:=id) Aa
  rw[Af h1',Af h1',Af h1,f1]
  exact⟨⟨by unfold GN;omega,⟨Aa,Aa⟩,GO (fun _=>trivial) fun _=>trivial⟩,rfl⟩
theorem Ae9 (h:KI N n s) (cl:Nat->Int) (tr:LM):GR s++[ZN (s.la+1)]=GR ⟨cl,s.ti,s.la+1,IH HT s.m (s.la+1) (ZN (s.la+1)),tr⟩:=by
 have hL:=h.hl
 simp only[GR]
 rw[show(s.la+1).toNat=s.la.toNat+1 by omega,List.range_succ,List.map_append]
 congr 1
 .refine List.map_congr_left fun k hk=>?_
  have:=List.mem_range.1 hk
  rw[MG,Af Aa]
 .rw[List.map_cons,List.map_nil,MG,Ae Aa]
theorem AbQ (h:KI N n s) (hn:n<=100000) (hS:Same16 N s.cl cls) (c:Nat->Int) (ti id:Int):MA c cls ti (GR s) s.tr id /\
  ∃ cls',Same16 N (HZ N s id).2.2.cl cls'/\Jw c cls ti (GR s) s.tr id=((HZ N s id).1,(HZ N s id).2.1,cls',GR (HZ N s id).2.2,(HZ N s id).2.2.tr):=by
 obtain⟨b1,b2⟩:=AaG hS c ti (GR s) s.tr id
 have hlen:=JR h
 have hL:=h.hl
 have hr:=h.hr
 have hl:=hS.l
 have hN:=hS.i.n1
 have hI:=(Tr h hn id).hc
 unfold MA Jw
 rw[b2,hlen]
 by_cases ha:HV N s.cl id=0
 .obtain⟨r1,r2⟩:=Ld.1 ha
  obtain⟨f0,f1⟩:=Aap hS (id:=id) Aa
  have htx:=hS.i.tx id.toNat Aa
  have hi:GN (id-1):=by unfold GN;omega
  have hx:0<=id-1/\id-1<(cls.length:Int):=⟨Aa,Aa⟩
  rw[Ae ha,Ae ha,f0]
  by_cases h0:s.cl (1+id.toNat*3)=0
  .have e:HZ N s id=(s.la+1,0,⟨Gq s.cl (1+id.toNat*3) (s.la+1),s.ti,s.la+1,IH HT s.m (s.la+1) (ZN (s.la+1)),s.tr++[Gq (Gq (Gq (fun _=>0) 0 1) 1 id) 2 (s.la+1)]⟩):=by
    unfold HZ;rw[Ae ha,Ae h0]
   rw[e] at hI ⊢
   have c0:¬ 0<s.cl (1+id.toNat*3):=Aa
   have c1:=fun e=>r1 ((Ua hS).1 e)
   have c2:¬ ((decide (s.la+1<1))||(decide (1048576<s.la+1)))=true:=by
    rw[Bool.or_eq_true,decide_eq_true_iff,decide_eq_true_iff];omega
   have c3:¬ 0<Jo cls (s.la+1):=by rw[hS.of,Abs h];omega
   rw[Af c0,Af c0,Af c1,Af c1,Af c2,Af c2,f1,Af r2,Af r2,Af c3,Af c3]
   have hp:=hS.put (k:=id.toNat) (x:=s.la+1) Aa hI
   have e8:(id-1).toNat=id.toNat-1:=Aa
   refine⟨⟨b1,hi,hx,by unfold GN;omega,hi,hx,by unfold UO;omega,Aa,hi,⟨Aa,by simp;omega⟩,Aa,Aa,trivial⟩,_,hp,?_⟩
   rw[e8,<- Ae9 h];rfl
  .have e:HZ N s id=(0,8,s):=by unfold HZ;rw[Ae ha,Af h0]
   have c0:0<s.cl (1+id.toNat*3):=Aa
   rw[Ae c0,Ae c0,e]
   exact⟨⟨b1,hi,hx,trivial⟩,cls,hS,rfl⟩
 .have e:HZ N s id=(0,HV N s.cl id,s):=by unfold HZ;rw[Af ha]
  rw[Af ha,Af ha,e]
  exact⟨⟨b1,trivial⟩,cls,hS,rfl⟩
def Zd (c:Nat->Int) (N:Int) (s:KS) (k id:Int) (a:Nat->Int) (m:Int):LM×Int×KS:=
 if k=0 then IT (c 0) N s id a m else if k=1 then Ia N s id else if k=2 then Ii N s id else([],(Jl N s id).1,(Jl N s id).2)
theorem AgD (h:KI N n s) (hn:n<=100000) (hS:Same16 N s.cl cls) {c:Nat->Int} (hc:1<=c 0/\c 0<=64) {k:Int} (hk:0<=k/\k<=3) (id:Int) (a:Nat->Int) (m:Int):AaE c cls s.ti (GR s) s.tr k id a m /\
  ∃ cls',Same16 N (Zd c N s k id a m).2.2.cl cls'/\NP c cls s.ti (GR s) s.tr k id a m=((Zd c N s k id a m).1,(Zd c N s k id a m).2.1,cls',GR (Zd c N s k id a m).2.2,(Zd c N s k id a m).2.2.tr):=by
 obtain⟨b1,b2⟩:=AaG hS c s.ti (GR s) s.tr id
 have hlen:=JR h
 have hL:=h.hl
 have hti:=h.ht
 have hr:=h.hr
 have hl:=hS.l
 have hN:=hS.i.n1
 unfold AaE NP Zd
 rw[b2]
 by_cases ha:HV N s.cl id=0
 .obtain⟨r1,r2⟩:=Ld.1 ha
  obtain⟨f0,f1⟩:=Aap hS (id:=id) Aa
  have hi:GN (id-1):=by unfold GN;omega
  have hx:0<=id-1/\id-1<(cls.length:Int):=⟨Aa,Aa⟩
  rw[Ae ha,Ae ha]
  by_cases k3:k=3
  .have hI:=(Wz h hn id).hc
   have e:Jl N s id=(0,{s with cl:=M9 s.cl id.toNat s.ti,tr:=s.tr++[Gq (Gq (fun _=>0) 0 8) 1 id]}):=by unfold Jl;rw[Ae ha]
   rw[e] at hI ⊢
   have c1:=fun e=>r1 ((Ua hS).1 e)
   have c2:Jr s.ti=true:=by
    unfold Jr
    rw[Bool.and_eq_true,decide_eq_true_iff,decide_eq_true_iff];omega
   have e8:(id-1).toNat=id.toNat-1:=Aa
   rw[Ae k3,Ae k3,Af c1,Af c1,Ae c2,Ae c2,f1,Af r2,Af r2,Af (by omega:¬ k=0),Af (by omega:¬ k=1),Af (by omega:¬ k=2)]
   refine⟨⟨b1,hi,hx,Aa,hi,⟨Aa,by simp;omega⟩,Aa,trivial⟩,_,hS.dead (k:=id.toNat) Aa hI,?_⟩
   rw[e8];rfl
  .rw[Af k3,Af k3,f0]
   by_cases h0:s.cl (1+id.toNat*3)=0
   .have e:(if k=0 then IT (c 0) N s id a m else if k=1 then Ia N s id else if k=2 then Ii N s id else([],(Jl N s id).1,(Jl N s id).2))=([],10,s):=by
     unfold IT Ia Ii
     rw[Ae ha,Ae ha,Ae ha,Ae h0,Ae h0,Ae h0]
     by_cases k0:k=0
     .rw[Ae k0]
     .rw[Af k0]
      by_cases k1:k=1
      .rw[Ae k1]
      .rw[Af k1,Ae Aa]
    rw[Ae h0,Ae h0,e]
    exact⟨⟨b1,hi,hx,trivial⟩,cls,hS,rfl⟩
   .rw[Af h0,Af h0]
    have hw:=h.now ha h0
    obtain⟨hT,yu⟩:=h.hT _ hw.1 hw.2
    have lv:GN (s.cl (1+id.toNat*3)-1):=by unfold GN;omega
    have kA:0<=s.cl (1+id.toNat*3)-1/\s.cl (1+id.toNat*3)-1<((GR s).length:Int):=⟨Aa,Aa⟩
    rw[Pi h hw]
    by_cases k0:k=0
    .rw[Ae k0,Ae k0,Ae k0,Ym]
     by_cases ho:HQ a=true
     .have kp:1<=a 0/\a 0<=250:=by
       unfold HQ at ho
       simp only[Bool.and_eq_true,decide_eq_true_eq] at ho
       omega
      have c2:¬ ((decide (c 0<1))||(decide (64<c 0)))=true:=by
       rw[Bool.or_eq_true,decide_eq_true_iff,decide_eq_true_iff];omega
      have es:Hf a (c 0)=(H3 a (c 0),0):=by
       unfold Hf
       rw[Ae ho,Af c2,Zx hc.1 kp.1]
      have e0:IT (c 0) N s id a m=if(Lc (GU s.m (s.cl (1+id.toNat*3))) (H3 a (c 0)) a m).2.2=0 then
        ((Lc (GU s.m (s.cl (1+id.toNat*3))) (H3 a (c 0)) a m).2.1,0,Jq {s with tr:=s.tr++[XM (s.cl (1+id.toNat*3)) a m]} (Lc (GU s.m (s.cl (1+id.toNat*3))) (H3 a (c 0)) a m).1)
        else([],(Lc (GU s.m (s.cl (1+id.toNat*3))) (H3 a (c 0)) a m).2.2,s):=by
       unfold IT
       rw[Ae ha,Af h0,es]
       dsimp only
       rw[Ae rfl,XL,yu]
      obtain⟨p,q⟩:=Afk hT (H3 a (c 0)) a m
      have e1:(Ts (GU s.m (s.cl (1+id.toNat*3))).1 (GU s.m (s.cl (1+id.toNat*3))).2.1 (GU s.m (s.cl (1+id.toNat*3))).2.2.1 (GU s.m (s.cl (1+id.toNat*3))).2.2.2.1 (GU s.m (s.cl (1+id.toNat*3))).2.2.2.2.1 (GU s.m (s.cl (1+id.toNat*3))).2.2.2.2.2.1 (GU s.m (s.cl (1+id.toNat*3))).2.2.2.2.2.2.1 (GU s.m (s.cl (1+id.toNat*3))).2.2.2.2.2.2.2.1 (GU s.m (s.cl (1+id.toNat*3))).2.2.2.2.2.2.2.2.1 (GU s.m (s.cl (1+id.toNat*3))).2.2.2.2.2.2.2.2.2.1 (GU s.m (s.cl (1+id.toNat*3))).2.2.2.2.2.2.2.2.2.2.1 (GU s.m (s.cl (1+id.toNat*3))).2.2.2.2.2.2.2.2.2.2.2) (H3 a (c 0)) a m=Lc (GU s.m (s.cl (1+id.toNat*3))) (H3 a (c 0)) a m:=rfl
      rw[Ae ho,Ae ho,q,e1,e0]
      obtain⟨v1,cls',v2,v3⟩:=Oh (s:={s with tr:=s.tr++[XM (s.cl (1+id.toNat*3)) a m]}) (h.ext _) Aa hS c s.ti (t:=(Lc (GU s.m (s.cl (1+id.toNat*3))) (H3 a (c 0)) a m).1) (Aby hT _ _ _) (by rw[XL,yu];exact hw) (.inl (by rw[XL,yu,(Aht).1]))
      replace v3:JJ c cls s.ti (GR s) (s.tr++[XM (s.cl (1+id.toNat*3)) a m]) (Lc (GU s.m (s.cl (1+id.toNat*3))) (H3 a (c 0)) a m).1=_:=v3
      generalize Lc (GU s.m (s.cl (1+id.toNat*3))) (H3 a (c 0)) a m=r at *
      dsimp only
      by_cases hz:r.2.2=0
      .rw[Ae hz,Ae hz,Ae hz]
       refine⟨⟨b1,hi,hx,lv,kA,by unfold NW;omega,p,Aa,v1,trivial⟩,cls',v2,?_⟩
       show(r.2.1,(0:Int),(JJ c cls s.ti (GR s) (s.tr++[XM (s.cl (1+id.toNat*3)) a m]) r.1).1,(JJ c cls s.ti (GR s) (s.tr++[XM (s.cl (1+id.toNat*3)) a m]) r.1).2.1,(JJ c cls s.ti (GR s) (s.tr++[XM (s.cl (1+id.toNat*3)) a m]) r.1).2.2)=_
       rw[v3]
      .rw[Af hz,Af hz,Af hz]
       exact⟨⟨b1,hi,hx,lv,kA,by unfold NW;omega,p,trivial⟩,cls,hS,rfl⟩
     .have e0:IT (c 0) N s id a m=([],1,s):=by
       have e2:(Hf a (c 0)).2=1:=by unfold Hf;rw[Af ho]
       unfold IT
       rw[Ae ha,Af h0,e2,Af Ab]
      rw[Af ho,Af ho,e0]
      exact⟨⟨b1,hi,hx,lv,kA,trivial⟩,cls,hS,rfl⟩
    .rw[Af k0,Af k0,Af k0]
     by_cases k1:k=1
     .rw[Ae k1,Ae k1,Ae k1]
      have e0:Ia N s id=Lb s (PU (GU s.m (s.cl (1+id.toNat*3)))):=by unfold Ia;rw[Ae ha,Af h0]
      obtain⟨p,q⟩:=ZE hT
      have e1:(Tq (GU s.m (s.cl (1+id.toNat*3))).1 (GU s.m (s.cl (1+id.toNat*3))).2.1 (GU s.m (s.cl (1+id.toNat*3))).2.2.1 (GU s.m (s.cl (1+id.toNat*3))).2.2.2.1 (GU s.m (s.cl (1+id.toNat*3))).2.2.2.2.1 (GU s.m (s.cl (1+id.toNat*3))).2.2.2.2.2.1 (GU s.m (s.cl (1+id.toNat*3))).2.2.2.2.2.2.1 (GU s.m (s.cl (1+id.toNat*3))).2.2.2.2.2.2.2.1 (GU s.m (s.cl (1+id.toNat*3))).2.2.2.2.2.2.2.2.1 (GU s.m (s.cl (1+id.toNat*3))).2.2.2.2.2.2.2.2.2.1 (GU s.m (s.cl (1+id.toNat*3))).2.2.2.2.2.2.2.2.2.2.1 (GU s.m (s.cl (1+id.toNat*3))).2.2.2.2.2.2.2.2.2.2.2)=PU (GU s.m (s.cl (1+id.toNat*3))):=rfl
      rw[q,e1,e0]
      obtain⟨v1,cls',v2,v3⟩:=Oh h Aa hS c s.ti (t:=(PU (GU s.m (s.cl (1+id.toNat*3)))).1) (Abn hT) (by rw[Aag,yu];exact hw) (by rw[Aag,yu];exact(AfF).imp Eq.symm fun x=>x)
      unfold Lb
      generalize PU (GU s.m (s.cl (1+id.toNat*3)))=r at *
      dsimp only
      by_cases hz:r.2.2=0
      .rw[Ae hz,Ae hz,Ae hz]
       refine⟨⟨b1,hi,hx,lv,kA,p,v1,trivial⟩,cls',v2,?_⟩
       show(r.2.1,(0:Int),(JJ c cls s.ti (GR s) s.tr r.1).1,(JJ c cls s.ti (GR s) s.tr r.1).2.1,(JJ c cls s.ti (GR s) s.tr r.1).2.2)=_
       rw[v3]
      .rw[Af hz,Af hz,Af hz]
       exact⟨⟨b1,hi,hx,lv,kA,p,trivial⟩,cls,hS,rfl⟩
     .have k2:k=2:=Aa
      have e0:Ii N s id=HC s (s.cl (1+id.toNat*3)) 1 [1]:=by unfold Ii;rw[Ae ha,Af h0,yu]
      rw[Af k1,Af k1,Af k1,Ae k2,e0]
      unfold HC
      by_cases hs:(GU s.m (s.cl (1+id.toNat*3))).2.1=1
      .have hs':(GU s.m (s.cl (1+id.toNat*3))).2.1∈[(1:Int)]:=by rw[hs];exact List.mem_singleton.2 rfl
       obtain⟨p,q⟩:=Wj hT 1
       have e1:(Le (GU s.m (s.cl (1+id.toNat*3))).1 (GU s.m (s.cl (1+id.toNat*3))).2.1 (GU s.m (s.cl (1+id.toNat*3))).2.2.1 (GU s.m (s.cl (1+id.toNat*3))).2.2.2.1 (GU s.m (s.cl (1+id.toNat*3))).2.2.2.2.1 (GU s.m (s.cl (1+id.toNat*3))).2.2.2.2.2.1 (GU s.m (s.cl (1+id.toNat*3))).2.2.2.2.2.2.1 (GU s.m (s.cl (1+id.toNat*3))).2.2.2.2.2.2.2.1 (GU s.m (s.cl (1+id.toNat*3))).2.2.2.2.2.2.2.2.1 (GU s.m (s.cl (1+id.toNat*3))).2.2.2.2.2.2.2.2.2.1 (GU s.m (s.cl (1+id.toNat*3))).2.2.2.2.2.2.2.2.2.2.1 (GU s.m (s.cl (1+id.toNat*3))).2.2.2.2.2.2.2.2.2.2.2) 1=IK (GU s.m (s.cl (1+id.toNat*3))) 1:=rfl
       rw[Ae hs,Ae hs,Ae hs',q,e1]
       obtain⟨z1,z2⟩:=VS (t:=GU s.m (s.cl (1+id.toNat*3))) (re:=1) Aa Aa
       obtain⟨v1,cls',v2,v3⟩:=Oh h Aa hS c s.ti (t:=(IK (GU s.m (s.cl (1+id.toNat*3))) 1).1) (Ty hT 1) (by rw[VR,yu];exact hw) (.inr (by rw[z2];decide))
       unfold Lb
       generalize IK (GU s.m (s.cl (1+id.toNat*3))) 1=r at *
       dsimp only
       rw[Ae z1,Ae z1,Ae z1]
       refine⟨⟨b1,hi,hx,lv,kA,p,v1,trivial⟩,cls',v2,?_⟩
       show(r.2.1,(0:Int),(JJ c cls s.ti (GR s) s.tr r.1).1,(JJ c cls s.ti (GR s) s.tr r.1).2.1,(JJ c cls s.ti (GR s) s.tr r.1).2.2)=_
       rw[v3]
      .have hs':¬ (GU s.m (s.cl (1+id.toNat*3))).2.1∈[(1:Int)]:=fun e=>hs (List.mem_singleton.1 e)
       rw[Af hs,Af hs,Af hs']
       exact⟨⟨b1,hi,hx,lv,kA,trivial⟩,cls,hS,rfl⟩
 .have e:(if k=0 then IT (c 0) N s id a m else if k=1 then Ia N s id else if k=2 then Ii N s id else([],(Jl N s id).1,(Jl N s id).2))=([],HV N s.cl id,s):=by
   unfold IT Ia Ii Jl
   rw[Af ha,Af ha,Af ha,Af ha]
   by_cases k0:k=0
   .rw[Ae k0]
   .rw[Af k0]
    by_cases k1:k=1
    .rw[Ae k1]
    .rw[Af k1]
     by_cases k2:k=2
     .rw[Ae k2]
     .rw[Af k2]
  rw[Af ha,Af ha,e]
  exact⟨⟨b1,trivial⟩,cls,hS,rfl⟩
end
end Go.E
namespace Go.E
open Go
section
variable {N:Int} {n:Nat} {s:KS} {cls:LM}
theorem Ac7 (h:KI N n s) (c:Nat->Int) (ti:Int) (tr:LM):Oi c cls ti (GR s) tr=Nu s.m:=by
 have hlen:=JR h
 have hL:=h.hl
 unfold Oi X1 Nu
 rw[h.keys,show(GR s).length=s.la.toNat by omega,List.flatMap_def,List.flatMap_def,List.map_map]
 congr 1
 refine List.map_congr_left fun k hk=>?_
 have hk':=List.mem_range.1 hk
 have:=Pi h (k:=(k:Int)+1) Aa
 rw[show((k:Int)+1-1).toNat=k by omega] at this
 rw[this]
 rfl
theorem Sn (h:KI N n s) (c:Nat->Int) (ti:Int) (tr:LM) (k:Int):JX c cls ti (GR s) tr k/\IG c cls ti (GR s) tr k=(GU s.m k).2.1:=by
 have hlen:=JR h
 have hL:=h.hl
 unfold JX IG
 by_cases hk:1<=k/\k<=s.la
 .have hc:¬ ((decide (k<1))||(decide (((GR s).length:Int)<k)))=true:=by
   rw[Bool.or_eq_true,decide_eq_true_iff,decide_eq_true_iff];omega
  rw[Af hc,Af hc,Pi h hk]
  by_cases hb:k-1<9000000000
  .exact⟨⟨by unfold GN;omega,⟨Aa,Aa⟩,trivial⟩,rfl⟩
  .have:=(h.hT k hk.1 hk.2).1.htx
   have:=(h.hT k hk.1 hk.2).2
   omega
 .have hc:((decide (k<1))||(decide (((GR s).length:Int)<k)))=true:=by
   rw[Bool.or_eq_true,decide_eq_true_iff,decide_eq_true_iff];omega
  rw[Ae hc,Ae hc,h.at0 hk]
  exact⟨trivial,rfl⟩
theorem Zk (h:KI N n s) (hn:n<=100000) (hS:Same16 N s.cl cls) (c:Nat->Int) (ti:Int) (m:Nat->Int):KC c cls ti (GR s) s.tr m /\
  ∃ cls',Same16 N (JE (nz (c 1)) s m).2.cl cls'/\Ju c cls ti (GR s) s.tr m=((JE (nz (c 1)) s m).1,cls',GR (JE (nz (c 1)) s m).2,(JE (nz (c 1)) s m).2.tr):=by
 have hlen:=JR h
 have hL:=h.hl
 have ho:=h.openLen
 unfold KC Ju JE
 rw[Ac7 h,<- Acj,<- AcL]
 by_cases hp:nz (c 1)=true
 .have p1:Rq c cls ti (GR s) s.tr:=by unfold Rq;omega
  have p2:Xe m (Nu s.m):=by unfold Xe NE;omega
  rw[Ae hp,Ae hp,Ae hp]
  by_cases hv:K3 m (Nu s.m)=true
  .obtain⟨hP,hst⟩:=Ack h hv
   have oJ:=YP hP
   rw[Ae hv,Ae hv,Ae hv]
   by_cases hb:Nb m=true
   .have e1:I2 m=QM m (m 11).toNat:=(X3 (Acu hP) _ Aa).symm
    have e2:(Ik m).1=QM m (m 11).toNat:=by unfold Ik;rw[Ae hP]
    have hw:1<=QM m (m 11).toNat/\QM m (m 11).toNat<=s.la:=by
     rcases Ac4 m (m 11).toNat (fun i hi=>(hst i hi).1.1) with ⟨_,h0⟩ | ⟨i,hi,e⟩
     .omega
     .rw[e];exact(hst i hi).1
    obtain⟨v1,cls',v2,v3⟩:=NQ h hn hS c ti hw (re:=4) (mo:=1) (l:=[1]) Aa (.inl ⟨rfl,rfl⟩)
    rw[Ae hb,Ae hb,Ae hb,e1,e2,v3]
    exact⟨⟨p1,p2,by unfold P7;omega,v1,trivial⟩,cls',v2,rfl⟩
   .obtain⟨s1,s2⟩:=Sn (cls:=cls) h c ti s.tr (m 9)
    rw[Af hb,Af hb,Af hb,s2]
    by_cases h9:1<=m 9/\m 9<=s.la
    .have hT:=(h.hT _ h9.1 h9.2).1
     have ko:1<=(GU s.m (m 9)).2.1/\(GU s.m (m 9)).2.1<=4:=hT.hst
     have hi:GN (m 9-1):=by unfold GN;omega
     have hx:0<=m 9-1/\m 9-1<((GR s).length:Int):=⟨Aa,Aa⟩
     have hz:¬ (GU s.m (m 9)).2.1=0:=Aa
     rw[Af hz,Af hz,Pi h h9]
     by_cases hc:((!((GU s.m (m 9)).2.2.2.2.1))||((!(decide (m 10=0)))&&(!(decide (m 10=(GU s.m (m 9)).2.2.2.1)))))=true
     .rw[Ae hc,Ae hc,Ae hc]
      exact⟨⟨p1,p2,s1,hi,hx,trivial⟩,cls,hS,rfl⟩
     .have hopen:(GU s.m (m 9)).2.2.2.2.1=true:=by
       cases hq:(GU s.m (m 9)).2.2.2.2.1
       .rw[hq] at hc;exact absurd rfl hc
       .rfl
      have hsh:1<=(GU s.m (m 9)).2.2.2.2.2.1/\(GU s.m (m 9)).2.2.2.2.2.1<=64:=(hT.hop hopen).2.2.1
      have e3:J0 (GU s.m (m 9)).2.2.2.2.2.1 m=(Gq (Gq m 1 0) 2 (GU s.m (m 9)).2.2.2.2.2.1,0):=by
       unfold J0
       rw[Ae hP,Ae ((Yr hP).2 (by
        rw[Bool.or_eq_true,decide_eq_true_iff,decide_eq_true_iff];omega))]
      rw[Af hc,Af hc,Af hc,e3]
      exact⟨⟨p1,p2,s1,hi,hx,trivial⟩,cls,hS,rfl⟩
    .rw[h.at0 h9]
     exact⟨⟨p1,p2,s1,trivial⟩,cls,hS,rfl⟩
  .rw[Af hv,Af hv,Af hv]
   exact⟨⟨p1,p2,trivial⟩,cls,hS,rfl⟩
 .rw[Af hp,Af hp,Af hp]
  exact⟨trivial,cls,hS,rfl⟩
theorem Zo (h:KI N n s) (hn:n<=100000) (hS:Same16 N s.cl cls) (c:Nat->Int) (ti:Int) (m:Nat->Int):P8 c cls ti (GR s) s.tr m /\
  ∃ cls',Same16 N (L8 (nz (c 1)) s m).2.cl cls'/\Jv c cls ti (GR s) s.tr m=((L8 (nz (c 1)) s m).1,cls',GR (L8 (nz (c 1)) s m).2,(L8 (nz (c 1)) s m).2.tr):=by
 have hlen:=JR h
 have hL:=h.hl
 unfold P8 Jv L8
 by_cases oJ:m 0=11
 .obtain⟨v1,cls',v2,v3⟩:=Zk h hn hS c ti m
  rw[Ae oJ,Ae oJ,Ae oJ,v3]
  exact⟨⟨v1,trivial⟩,cls',v2,rfl⟩
 rw[Af oJ,Af oJ,Af oJ]
 obtain⟨s1,s2⟩:=Sn (cls:=cls) h c ti s.tr (m 3)
 rw[s2]
 by_cases h3:1<=m 3/\m 3<=s.la
 .obtain⟨hT,hk⟩:=h.hT _ h3.1 h3.2
  have ko:1<=(GU s.m (m 3)).2.1/\(GU s.m (m 3)).2.1<=4:=hT.hst
  have hi:GN (m 3-1):=by unfold GN;omega
  have hx:0<=m 3-1/\m 3-1<((GR s).length:Int):=⟨Aa,Aa⟩
  have hz:¬ (GU s.m (m 3)).2.1=0:=Aa
  rw[Af hz,Af hz,Ae ((h.hk (m 3)).2 h3),Pi h h3]
  by_cases wu:((decide (m 0=2))||(decide (m 0=3)))=true
  .have e0:(if m 0=2 then Rj s m else if m 0=3 then Rj s m else if m 0=5 then TA s m else if m 0=7 then Y9 s m
     else if m 0=9 then((HC s (m 3) 5 [1,2]).1,(HC s (m 3) 5 [1,2]).2.2) else if m 0=10 then L0 (nz (c 1)) s m else([],s))=Rj s m:=by
    rw[Bool.or_eq_true,decide_eq_true_iff,decide_eq_true_iff] at wu
    by_cases h2:m 0=2
    .rw[Ae h2]
    .rw[Af h2,Ae (wu.resolve_left h2)]
   rw[Ae wu,Ae wu,e0]
   obtain⟨p,q⟩:=W3 hT Aa m
   have e1:(VO (GU s.m (m 3)).1 (GU s.m (m 3)).2.1 (GU s.m (m 3)).2.2.1 (GU s.m (m 3)).2.2.2.1 (GU s.m (m 3)).2.2.2.2.1 (GU s.m (m 3)).2.2.2.2.2.1 (GU s.m (m 3)).2.2.2.2.2.2.1 (GU s.m (m 3)).2.2.2.2.2.2.2.1 (GU s.m (m 3)).2.2.2.2.2.2.2.2.1 (GU s.m (m 3)).2.2.2.2.2.2.2.2.2.1 (GU s.m (m 3)).2.2.2.2.2.2.2.2.2.2.1 (GU s.m (m 3)).2.2.2.2.2.2.2.2.2.2.2) m=NL (GU s.m (m 3)) m:=rfl
   rw[q,e1]
   obtain⟨v1,cls',v2,v3⟩:=Oh h Aa hS c ti (t:=(NL (GU s.m (m 3)) m).1) (AbA hT m) (by rw[VN,hk];exact h3) (.inl (by rw[VN,hk,(Ahu).1]))
   have DD:=Ye h (NL (GU s.m (m 3)) m).1
   have Fb:(NL (GU s.m (m 3)) m).1.1=m 3:=by rw[VN,hk]
   unfold Rj
   generalize NL (GU s.m (m 3)) m=r at *
   dsimp only
   by_cases hz:r.2=0
   .rw[Ae hz,Ae hz,Ae hz]
    refine⟨⟨s1,hi,hx,p,v1,?_,trivial⟩,cls',v2,?_⟩
    .show((JJ c cls ti (GR s) s.tr r.1).2.2.length+1)*56<=140737488355328
     rw[v3]
     dsimp only
     omega
    .show([],(JJ c cls ti (GR s) s.tr r.1).1,(JJ c cls ti (GR s) s.tr r.1).2.1,(JJ c cls ti (GR s) s.tr r.1).2.2++[evG (GU s.m (m 3)) m (m 3)])=_
     rw[v3,Fb];rfl
   .rw[Af hz,Af hz,Af hz]
    exact⟨⟨s1,hi,hx,p,trivial⟩,cls,hS,rfl⟩
  .have h2:¬ m 0=2:=fun e=>wu (by rw[decide_eq_true e];rfl)
   have h3':¬ m 0=3:=fun e=>wu (by rw[decide_eq_true e,Bool.or_true])
   rw[Af wu,Af wu,Af h2,Af h3']
   by_cases h5:m 0=5
   .rw[Ae h5,Ae h5,Ae h5]
    obtain⟨p,q⟩:=Ado hT m
    have e1:(O9 (GU s.m (m 3)).1 (GU s.m (m 3)).2.1 (GU s.m (m 3)).2.2.1 (GU s.m (m 3)).2.2.2.1 (GU s.m (m 3)).2.2.2.2.1 (GU s.m (m 3)).2.2.2.2.2.1 (GU s.m (m 3)).2.2.2.2.2.2.1 (GU s.m (m 3)).2.2.2.2.2.2.2.1 (GU s.m (m 3)).2.2.2.2.2.2.2.2.1 (GU s.m (m 3)).2.2.2.2.2.2.2.2.2.1 (GU s.m (m 3)).2.2.2.2.2.2.2.2.2.2.1 (GU s.m (m 3)).2.2.2.2.2.2.2.2.2.2.2) m=KQ (GU s.m (m 3)) m:=rfl
    rw[q,e1]
    obtain⟨v1,cls',v2,v3⟩:=Oh h Aa hS c ti (t:=(KQ (GU s.m (m 3)) m).1) (XZ hT m) (by rw[T1,hk];exact h3) (by rw[T1,hk];exact(Ac0).imp Eq.symm id)
    unfold TA
    generalize KQ (GU s.m (m 3)) m=r at *
    dsimp only
    by_cases hz:r.2.2=0
    .rw[Ae hz,Ae hz,Ae hz]
     refine⟨⟨s1,hi,hx,p,v1,trivial⟩,cls',v2,?_⟩
     show(r.2.1,(JJ c cls ti (GR s) s.tr r.1).1,(JJ c cls ti (GR s) s.tr r.1).2.1,(JJ c cls ti (GR s) s.tr r.1).2.2)=_
     rw[v3]
    .rw[Af hz,Af hz,Af hz]
     exact⟨⟨s1,hi,hx,p,trivial⟩,cls,hS,rfl⟩
   rw[Af h5,Af h5,Af h5]
   by_cases h7:m 0=7
   .rw[Ae h7,Ae h7,Ae h7]
    obtain⟨p,q⟩:=Afm hT m
    have e1:(VQ (GU s.m (m 3)).1 (GU s.m (m 3)).2.1 (GU s.m (m 3)).2.2.1 (GU s.m (m 3)).2.2.2.1 (GU s.m (m 3)).2.2.2.2.1 (GU s.m (m 3)).2.2.2.2.2.1 (GU s.m (m 3)).2.2.2.2.2.2.1 (GU s.m (m 3)).2.2.2.2.2.2.2.1 (GU s.m (m 3)).2.2.2.2.2.2.2.2.1 (GU s.m (m 3)).2.2.2.2.2.2.2.2.2.1 (GU s.m (m 3)).2.2.2.2.2.2.2.2.2.2.1 (GU s.m (m 3)).2.2.2.2.2.2.2.2.2.2.2) m=QA (GU s.m (m 3)) m:=rfl
    rw[q,e1]
    obtain⟨v1,cls',v2,v3⟩:=Oh h Aa hS c ti (t:=(QA (GU s.m (m 3)) m).1) (AbC hT m) (by rw[XN,hk];exact h3) (.inl (by rw[XN,hk,(Ahw).1]))
    unfold Y9
    generalize QA (GU s.m (m 3)) m=r at *
    dsimp only
    by_cases hz:r.2=0
    .rw[Ae hz,Ae hz,Ae hz]
     refine⟨⟨s1,hi,hx,p,v1,trivial⟩,cls',v2,?_⟩
     show([],(JJ c cls ti (GR s) s.tr r.1).1,(JJ c cls ti (GR s) s.tr r.1).2.1,(JJ c cls ti (GR s) s.tr r.1).2.2)=_
     rw[v3]
    .rw[Af hz,Af hz,Af hz]
     exact⟨⟨s1,hi,hx,p,trivial⟩,cls,hS,rfl⟩
   rw[Af h7,Af h7,Af h7]
   by_cases h9:m 0=9
   .obtain⟨v1,cls',v2,v3⟩:=NQ h hn hS c ti h3 (re:=5) (mo:=2) (l:=[1,2]) Aa (.inr ⟨rfl,rfl⟩)
    rw[Ae h9,Ae h9,Ae h9,v3]
    exact⟨⟨s1,hi,hx,v1,trivial⟩,cls',v2,rfl⟩
   rw[Af h9,Af h9,Af h9]
   by_cases r3:m 0=10
   .obtain⟨w1,w2⟩:=Sn (cls:=cls) h c ti s.tr (m 9)
    rw[Ae r3,Ae r3,Ae r3,w2]
    unfold L0
    by_cases hc:((nz (c 1))||((!(decide ((GU s.m (m 9)).2.1=1)))&&(!(decide ((GU s.m (m 9)).2.1=2)))))=true
    .have hc':¬ ((!((nz (c 1))))&&((decide ((GU s.m (m 9)).2.1=1))||(decide ((GU s.m (m 9)).2.1=2))))=true:=by
      intro e
      cases y7:nz (c 1) <;> rw[y7] at hc e
      .cases ha:decide ((GU s.m (m 9)).2.1=1) <;> cases hb:decide ((GU s.m (m 9)).2.1=2) <;> rw[ha,hb] at hc e <;> first | (exact absurd e (by decide)) | (exact absurd hc (by decide))
      .exact absurd e Ad
     rw[Ae hc,Af hc',Af hc']
     exact⟨⟨s1,hi,hx,w1,trivial⟩,cls,hS,rfl⟩
    .have hc':((!((nz (c 1))))&&((decide ((GU s.m (m 9)).2.1=1))||(decide ((GU s.m (m 9)).2.1=2))))=true:=by
      cases y7:nz (c 1) <;> rw[y7] at hc
      .cases ha:decide ((GU s.m (m 9)).2.1=1) <;> cases hb:decide ((GU s.m (m 9)).2.1=2) <;> rw[ha,hb] at hc <;> first | rfl | (exact absurd rfl hc)
      .exact absurd rfl hc
     obtain⟨v1,cls',v2,v3⟩:=NQ h hn hS c ti h3 (re:=3) (mo:=1) (l:=[1]) Aa (.inl ⟨rfl,rfl⟩)
     rw[Af hc,Ae hc',Ae hc',v3]
     exact⟨⟨s1,hi,hx,w1,v1,trivial⟩,cls',v2,rfl⟩
   .rw[Af r3,Af r3,Af r3]
    exact⟨⟨s1,hi,hx,trivial⟩,cls,hS,rfl⟩
 .have hm:¬ KZ HT s.m (m 3)=true:=fun e=>h3 ((h.hk (m 3)).1 e)
  rw[Af hm,h.at0 h3]
  exact⟨⟨s1,trivial⟩,cls,hS,rfl⟩
end
end Go.E
namespace Go.E
open Go
def TLs (t:TT):Prop:=t.2.2.2.2.2.2.2.2.1.length<=1000000/\t.2.2.2.2.2.2.2.2.2.1.length<=1000000/\t.2.2.2.2.2.2.2.2.2.2.1.length<=1000000/\t.2.2.2.2.2.2.2.2.2.2.2.length<=1000000
def Pr (_c _cl:Nat->Int) (_ti _la:Int) (_m:TM) (_tr:LM) (_c':Nat->Int) (_cls:LM) (_ti':Int) (_txs:List TT) (_tr':LM):Bool:=true
def RJ (c cl:Nat->Int) (ti la:Int) (m:TM) (tr:LM) (_c':Nat->Int) (_cls:LM) (ti':Int) (txs:List TT) (tr':LM):Prop:=
 Ue c cl ti la m tr/\Qn c cl ti la m tr=(ti',(txs.length:Int),txs,tr')/\tr'.length<=1000000/\txs.length<=1000000/\∀ k,k<txs.length->TLs (txs[k]!)
theorem Wd {c cl:Nat->Int} {ti la:Int} {m:TM} {tr:LM} {c':Nat->Int} {cls:LM} {ti':Int} {txs:List TT} {tr':LM} (h:RJ c cl ti la m tr c' cls ti' txs tr') :
  RI c cl ti la m tr c' cls ti' txs tr' (Pr c cl ti la m tr c' cls ti' txs tr'):=by
 obtain⟨h1,h2,h3,h4,h5⟩:=h
 unfold RI Pr
 refine⟨h1,_,h2.symm,?_⟩
 dsimp only
 refine⟨fun _=>by unfold R7;omega,?_⟩
 rw[Af (by simp[YW])]
 refine⟨.inl (),?_,rfl⟩
 have:=aH (f:=fun(s:Int) (o:(Int) ⊕ ((Unit) ⊕ (Unit)))=>Mq txs (ti',(txs.length:Int),txs,tr') s o) (fun k:Nat=>(k:Int)) txs.length (r:=.inl ()) (fun k hk=>by
  obtain⟨a1,a2,a3,a4⟩:=h5 k hk
  obtain⟨s1,s2⟩:=Ab1 (tx:=(txs[k]!).1) (st:=(txs[k]!).2.1) (re:=(txs[k]!).2.2.1) (sq:=(txs[k]!).2.2.2.1) (op:=(txs[k]!).2.2.2.2.1) (sh:=(txs[k]!).2.2.2.2.2.1) (at_:=(txs[k]!).2.2.2.2.2.2.1) (mo:=(txs[k]!).2.2.2.2.2.2.2.1) a1 a2 a3 a4
  unfold Mq
  dsimp only
  rw[Ae Aa,Int.toNat_natCast,Ae s2]
  exact⟨⟨Aa,Aa⟩,⟨Aa,Aa⟩,s1,JK Aa,rfl⟩) (by
  unfold Mq
  dsimp only
  rw[Af Aa])
 exact this
end Go.E
namespace Go.E
open Go
def Kv (c0:NI) (gW:LM) (iT eE:Int) (eD:(List UT)) (zf:LM) (zg zh:Int) (zc:LM) (gK:NI) (eF:LM) (zd:UM) (o:(Int×Int×(List UT)×LM×Int×Int×LM×NI×LM×UM) ⊕ ((LM×Int×(List UT)×LM×Int×Int×UM×LM×NI) ⊕ (LM×Int×(List UT)×LM×Int×Int×UM×LM×NI))):Prop:=
 if iT<(gW.length:Int) then
  (0<=iT/\iT<gW.length)/\(
  (O7 c0 gK zg zh zd zc (gW[iT.toNat]!))/\(
  ∃ za:LM×Int×Int×Int×Int×UM×LM×NI,za=(LG c0 gK zg zh zd zc (gW[iT.toNat]!))/\(
  (0<=iT/\iT<gW.length)/\(
  (Mx c0 eF eE eD zf (gW[iT.toNat]!))/\(
  ∃ zb:LM×Int×Int×LM×Int×(List UT)×LM,zb=(Rp c0 eF eE eD zf (gW[iT.toNat]!))/\(
  (SZ za.1 zb.1)/\(
  if((QY za.1 zb.1))=true then
   if za.2.1=zb.2.1 then
    if za.2.2.1=zb.2.2.1 then
     (RJ c0 za.2.2.2.2.2.2.2 za.2.2.2.1 za.2.2.2.2.1 za.2.2.2.2.2.1 za.2.2.2.2.2.2.1 c0 zb.2.2.2.1 zb.2.2.2.2.1 zb.2.2.2.2.2.1 zb.2.2.2.2.2.2)/\(
     if((Pr c0 za.2.2.2.2.2.2.2 za.2.2.2.1 za.2.2.2.2.1 za.2.2.2.2.2.1 za.2.2.2.2.2.2.1 c0 zb.2.2.2.1 zb.2.2.2.2.1 zb.2.2.2.2.2.1 zb.2.2.2.2.2.2))=true then
      (GN (iT+1))/\(
      o=(.inl (iT+1,zb.2.2.2.2.1,zb.2.2.2.2.2.1,zb.2.2.2.2.2.2,za.2.2.2.1,za.2.2.2.2.1,za.2.2.2.2.2.2.1,za.2.2.2.2.2.2.2,zb.2.2.2.1,za.2.2.2.2.2.1)))
     else
      o=(.inr (.inr (zb.2.2.2.1,zb.2.2.2.2.1,zb.2.2.2.2.2.1,zb.2.2.2.2.2.2,za.2.2.2.1,za.2.2.2.2.1,za.2.2.2.2.2.1,za.2.2.2.2.2.2.1,za.2.2.2.2.2.2.2))))
    else
     o=(.inr (.inr (zb.2.2.2.1,zb.2.2.2.2.1,zb.2.2.2.2.2.1,zb.2.2.2.2.2.2,za.2.2.2.1,za.2.2.2.2.1,za.2.2.2.2.2.1,za.2.2.2.2.2.2.1,za.2.2.2.2.2.2.2)))
   else
    o=(.inr (.inr (zb.2.2.2.1,zb.2.2.2.2.1,zb.2.2.2.2.2.1,zb.2.2.2.2.2.2,za.2.2.2.1,za.2.2.2.2.1,za.2.2.2.2.2.1,za.2.2.2.2.2.2.1,za.2.2.2.2.2.2.2)))
  else
   o=(.inr (.inr (zb.2.2.2.1,zb.2.2.2.2.1,zb.2.2.2.2.2.1,zb.2.2.2.2.2.2,za.2.2.2.1,za.2.2.2.2.1,za.2.2.2.2.2.1,za.2.2.2.2.2.2.1,za.2.2.2.2.2.2.2))))))))))
 else
  o=(.inr (.inl (eF,eE,eD,zf,zg,zh,zd,zc,gK)))
def Nt (c0:NI) (eF:LM) (eE:Int) (eD:(List UT)) (zf:LM) (zg zh:Int) (zd:UM) (zc:LM) (gK:NI) (r:Bool):Prop:=
 (RJ c0 gK zg zh zd zc c0 eF eE eD zf)/\(
 r=((Pr c0 gK zg zh zd zc c0 eF eE eD zf)))
def PB (eF:LM) (eE:Int) (eD:(List UT)) (zf:LM) (zg zh:Int) (zd:UM) (zc:LM) (gK:NI) (r:Bool):Prop:=
 r=(false)
def Qg (c0:NI) (bJ:Int) (gW:LM) (r:Bool):Prop:=
 if(Tv)=true then
  if 100<(gW.length:Int) then
   r=(true)
  else
   if((decide (1<=c0 0))&&(decide (c0 0<=64)))=true then
    if((decide (1<=c0 2))&&(decide (c0 2<=1000)))=true then
     if((decide (1<=c0 3))&&(decide (c0 3<=1000)))=true then
      if((decide (1<=c0 4))&&(decide (c0 4<=4096)))=true then
       if((decide (1<=c0 5))&&(decide (c0 5<=64)))=true then
        if((decide (1<=c0 6))&&(decide (c0 6<=65536)))=true then
         if((decide (bJ<1))||(decide (8<bJ)))=true then
          if((Ja c0))=true then
           r=(decide ((Hp 2)=2))
          else
           r=(decide ((Hp 2)=13))
         else
          if((Ja c0))=true then
           (0<=bJ)/\(
           (24*bJ<=140737488355328)/\(
           (bJ<=1000000000000)/\(
           ∃ x:(LM×Int×(List UT)×LM×Int×Int×UM×LM×NI) ⊕ (LM×Int×(List UT)×LM×Int×Int×UM×LM×NI),Wh (fun(s:Int×Int×(List UT)×LM×Int×Int×LM×NI×LM×UM) (o:(Int×Int×(List UT)×LM×Int×Int×LM×NI×LM×UM) ⊕ ((LM×Int×(List UT)×LM×Int×Int×UM×LM×NI) ⊕ (LM×Int×(List UT)×LM×Int×Int×UM×LM×NI)))=>Kv c0 gW s.1 s.2.1 s.2.2.1 s.2.2.2.1 s.2.2.2.2.1 s.2.2.2.2.2.1 s.2.2.2.2.2.2.1 s.2.2.2.2.2.2.2.1 s.2.2.2.2.2.2.2.2.1 s.2.2.2.2.2.2.2.2.2 o) ((0,0,[],[],0,0,[],(Gq (fun _=>0) 0 bJ),(List.replicate bJ.toNat (fun _=>0)),[]):Int×Int×(List UT)×LM×Int×Int×LM×NI×LM×UM) x/\(match x with | .inl (eF,eE,eD,zf,zg,zh,zd,zc,gK)=>Nt c0 eF eE eD zf zg zh zd zc gK r | .inr (eF,eE,eD,zf,zg,zh,zd,zc,gK)=>PB eF eE eD zf zg zh zd zc gK r))))
          else
           r=(false)
        else
         if((Ja c0))=true then
          if((decide (bJ<1))||(decide (8<bJ)))=true then
           r=(decide ((Hp 13)=2))
          else
           r=(false)
         else
          r=(decide ((Hp 13)=13))
       else
        if((Ja c0))=true then
         if((decide (bJ<1))||(decide (8<bJ)))=true then
          r=(decide ((Hp 13)=2))
         else
          r=(false)
        else
         r=(decide ((Hp 13)=13))
      else
       if((Ja c0))=true then
        if((decide (bJ<1))||(decide (8<bJ)))=true then
         r=(decide ((Hp 13)=2))
        else
         r=(false)
       else
        r=(decide ((Hp 13)=13))
     else
      if((Ja c0))=true then
       if((decide (bJ<1))||(decide (8<bJ)))=true then
        r=(decide ((Hp 13)=2))
       else
        r=(false)
      else
       r=(decide ((Hp 13)=13))
    else
     if((Ja c0))=true then
      if((decide (bJ<1))||(decide (8<bJ)))=true then
       r=(decide ((Hp 13)=2))
      else
       r=(false)
     else
      r=(decide ((Hp 13)=13))
   else
    if((Ja c0))=true then
     if((decide (bJ<1))||(decide (8<bJ)))=true then
      r=(decide ((Hp 13)=2))
     else
      r=(false)
    else
     r=(decide ((Hp 13)=13))
 else
  r=(false)
end Go.E
namespace Go.Proofs.YtljklmlodfbdnaaGreat
open Go Go.E Go.Proofs.Tryz
theorem K8 {n0 nX jE} (w) (r) (h:Aes n0 nX jE r):Con prog 137 #[iI n0,iI nX,iI jE] w (Is (.bool r) []):=by
  unfold Aes at h
  refine ce func137 Y ntmps137 Y (wS (va Y (nY (wk [] Y [(6,.bool ((decide (nX<=n0))&&(decide (n0<=jE))))] ?_ ?_))))
  . refine Gr (vm Y (vm Y (xQ Y (Ie Y Y) (vm Y (IY 10 Y (fun bB=>?_) fun bB=>?_)))))
    . exact vm Y (vm Y (xQ Y (J1 Y Y) (vt Y (va Y (Ma bB)))))
    . exact vs Y (vs Y (vs Y (vf Y (va Y (Ma bB)))))
  . refine Gt (Hl ?_)
    subst h
    exact rO results137 Y (⟨Y,Y⟩)
theorem Qc {n0} (w) (r) (h:WT n0 r):Con prog 136 #[iI n0] w (Is (.bool r) []):=by
  unfold WT at h
  refine ce func136 Y ntmps136 Y (wS (va Y (nR (vm Y (xc Y PI Y (fun w1 br=>K8 w1 _ (M0)) (va Y (nV ?_)))))))
  subst h
  exact rO results136 Y (⟨Y,Y⟩)
theorem Pj {n0} (w) (r) (h:AgE n0 r):Con prog 138 #[iI n0] w (Is (.bool r) []):=by
  unfold AgE at h
  refine ce func138 Y ntmps138 Y (wS (va Y (nR (vm Y (xc Y PI Y (fun w1 br=>K8 w1 _ (M0)) (va Y (nV ?_)))))))
  subst h
  exact rO results138 Y (⟨Y,Y⟩)
theorem Aex {m0} (w) (r) (h:Aai m0 r):Con prog 103 #[AI 28 m0] w (Is (.bool r) []):=by
  unfold Aai at h
  refine ce func103 Y ntmps103 Y (wS (xr Y (He Y) ?_))
  rintro _ _ ⟨b1,ko,rfl,rfl⟩
  refine va Y (nY (wS (Xf G9 Y Y (Xi (m0 0) GF Y Y (nS (Gz (Gu (Gz (Gu ?_)))))))))
  refine Gz (Gu (Gu (wS (xQ Y (GI Y Y) (va Y (nS (wd Y h (fun bB h=>?_) fun bB h=>?_)))))))
  . refine GJ (Gs (Gs (GD (qW (Xf IE Y Y (Xi (m0 1) GF Y Y (xQ Y (Hr Y Y) (nS (wn Y h (fun bA h=>?_) fun bA h=>?_)))))))))
    . refine Gu (wk [] Y [(2,.bool (((JS (m0 1)))&&(decide (m0 2=0))))] ?_ ?_)
      . refine Gr (Xf IE Y Y (Xi (m0 1) GF Y Y (xc Y Aa9 Y (fun w1 br=>Qc w1 _ (RF)) (vm Y (VZ 18 Y (fun cx=>?_) fun cx=>?_)))))
        . exact Xf Jz Y Y (Xi (m0 2) GF Y Y (xQ Y (GI Y Y) (vt Y (va Y (Ng bB bA cx)))))
        . exact vs Y (vs Y (vs Y (vf Y (va Y (Ng bB bA cx)))))
      . refine Gt (Hl (GB (Gx (GB (Gx ?_)))))
        subst h
        exact yA results103 Y [] KP (⟨Y,Y⟩)
    . refine GY (GZ 2 (Gt (Gu (Gu (wk [] Y [(2,.bool ((decide (m0 1=0))&&((JS (m0 2)))))] ?_ ?_)))))
      . exact Gr (Xf IE Y Y (Xi (m0 1) GF Y Y (xQ Y (GI Y Y) (vm Y (QJ 26 Y (v':=.bool true) (congrArg Value.bool (dT bA)) (Xf Jz Y Y (Xi (m0 2) GF Y Y (xc Y Aa9 Y (fun w1 br=>Qc w1 _ (RF)) (vt Y (va Y (P2 bB bA)))))))))))
      . refine Gt (rU (GB (Gx ?_)))
        subst h
        exact yA results103 Y [] KP (⟨Y,Y⟩)
  . refine jS (wS (xQ Y (GI Y Y) (va Y (nS (wk [1] Y [(7,.bool ((decide (m0 0=1))||((decide (m0 0=4))||((decide (m0 0=6))||(decide (m0 0=8))))))] ?_ ?_)))))
    . refine Zh Y (fun dU=>?_) fun dU=>?_
      . exact GY (qk Y (by simp[bB,dU]) Y)
      . refine wS (xQ Y (GI Y Y) (va Y (nS (wk [1] Y [(7,.bool ((decide (m0 0=4))||((decide (m0 0=6))||(decide (m0 0=8)))))] ?_ ?_))))
        . refine Zh Y (fun ct=>?_) fun ct=>?_
          . exact GY (qk Y (by simp[bB,dU,ct]) Y)
          . refine wS (xQ Y (GI Y Y) (va Y (nS (wk [1] Y [(7,.bool ((decide (m0 0=6))||(decide (m0 0=8))))] ?_ ?_))))
            . refine Zh Y (fun dW=>?_) fun dW=>?_
              . exact GY (qk Y (by simp[bB,dU,ct,dW]) Y)
              . exact Gr (xQ Y (GI Y Y) (va Y (V2 bB dU ct dW)))
            . exact qk Y (by simp[bB,dU,ct]) Y
        . exact qk Y (by simp[bB,dU]) Y
    . refine Gt (wb Y h (fun co h=>?_) fun co h=>?_)
      . refine GJ (Gs (Gy Y (Gs (GD (Gt (Gu (Gu (wk [] Y [(2,.bool ((decide (m0 1=0))&&((JS (m0 2)))))] ?_ ?_))))))))
        . refine Gr (Xf IE Y Y (Xi (m0 1) GF Y Y (xQ Y (GI Y Y) (vm Y (IY 26 Y (fun cQ=>?_) fun cQ=>?_)))))
          . exact Xf Jz Y Y (Xi (m0 2) GF Y Y (xc Y Aa9 Y (fun w1 br=>Qc w1 _ (RF)) (vt Y (va Y (Ng bB co cQ)))))
          . exact vs Y (vs Y (vs Y (vf Y (va Y (Ng bB co cQ)))))
        . refine Gt (rU (GB (Gx ?_)))
          subst h
          exact yA results103 Y [] KP (⟨Y,Y⟩)
      . refine jT (GJ (Gy Y (Gs (Gy Y (Gs (GD (Gt (Gu (wk [] Y [(2,.bool (((JS (m0 1)))&&(decide (m0 2=0))))] ?_ ?_)))))))))
        . refine Gr (Xf IE Y Y (Xi (m0 1) GF Y Y (xc Y Aa9 Y (fun w1 br=>Qc w1 _ (RF)) (vm Y (VZ 34 Y (fun cg=>?_) fun cg=>?_)))))
          . exact Xf Jz Y Y (Xi (m0 2) GF Y Y (xQ Y (GI Y Y) (vt Y (va Y (Ng bB co cg)))))
          . exact vs Y (vs Y (vs Y (vf Y (va Y (Ng bB co cg)))))
        . refine Gt (Hl ?_)
          subst h
          exact yA results103 Y [] KP (⟨Y,Y⟩)
theorem SP {r0} (w) (r) (h:WZ r0 r):Con prog 93 #[AI 2 r0] w (Is (.bool r) []):=by
  unfold WZ at h
  refine ce func93 Y ntmps93 Y (wS (xr Y (He Y) ?_))
  rintro _ _ ⟨b1,ko,rfl,rfl⟩
  refine va Y (nY (wk [] Y [(2,.bool ((((decide (1<=r0 0))&&(decide (r0 0<=250)))&&(decide (0<=r0 1)))&&(decide (r0 1<=250))))] ?_ ?_))
  . refine Gr (Xf PS Y Y (Xi (r0 0) GF Y Y (xQ Y (Ie Y Y) (vm Y (IY 6 Y (fun bB=>?_) fun bB=>?_)))))
    . refine Xf PS Y Y (Xi (r0 0) GF Y Y (xQ Y (J1 Y Y) (vt Y (vm Y (IY 11 Y (fun bA=>?_) fun bA=>?_)))))
      . refine Xf Xy Y Y (Xi (r0 1) GF Y Y (xQ Y (Ie Y Y) (vt Y (vm Y (IY 16 Y (fun cx=>?_) fun cx=>?_)))))
        . exact Xf Xy Y Y (Xi (r0 1) GF Y Y (xQ Y (J1 Y Y) (vt Y (va Y (Ng bB bA cx)))))
        . exact vs Y (vs Y (vs Y (vf Y (va Y (Ng bB bA cx)))))
      . exact vs Y (vs Y (vs Y (vf Y (vm Y (vs Y (vs Y (vs Y (vf Y (va Y (P2 bB bA))))))))))
    . refine vs Y (vs Y (vs Y (vf Y (vm Y (vs Y (vs Y (vs Y (vf Y (vm Y (vs Y (vs Y (vs Y (vf Y ?_)))))))))))))
      exact va Y (Ma bB)
  . refine Gt (Hl ?_)
    subst h
    exact yA results93 Y [] KP (⟨Y,Y⟩)
theorem Adw {m0} (w) (r) (h:W4 m0 r):Con prog 139 #[AI 28 m0] w (Is (.bool r) []):=by
  unfold W4 at h
  refine ce func139 Y ntmps139 Y (wS (xr Y (He Y) ?_))
  rintro _ _ ⟨b1,ko,rfl,rfl⟩
  refine va Y (nY (Gu (wk [1] Y [(22,.bool (((!((HM (m0 11) 1 8)))||(!((Kh (m0 9)))))||(!((HM (m0 10) 0 1048576)))))] ?_ ?_)))
  . refine Gr (Xf Ko Y Y (Xi (m0 11) GF Y Y (xc Y PI Y (fun w1 br=>K8 w1 _ (M0)) (xQ Y (Hh Y) (vm Y (QC 11 Y (fun bB=>?_) fun bB=>?_))))))
    . exact Ma bB
    . refine Xf Hx Y Y (Xi (m0 9) GF Y Y (xc Y TJ Y (fun w1 br=>Pj w1 _ (TD)) (xQ Y (Hh Y) (vf Y (vm Y (QC 17 Y (fun bA=>?_) fun bA=>?_))))))
      . exact P2 bB bA
      . exact Xf Lv Y Y (Xi (m0 10) GF Y Y (xc Y PI Y (fun w1 br=>K8 w1 _ (M0)) (xQ Y (Hh Y) (P2 bB bA))))
  . refine Gt (wb Y h (fun cx h=>?_) fun cx h=>?_)
    . refine wS (va Y (nU ?_))
      subst h
      exact yA results139 Y [] KP (⟨Y,Y⟩)
    . refine jS (wS (Xf Iu Y Y (xQ Y (Jx Y Afa (List.Mem.head _) U (fun _ _=>Y)) (vm Y (nS (Gz ?_))))))
      obtain⟨x1,fq,h⟩:=h
      refine xL (fun(io:Int) e H=>e=[(1,.pointer (some ⟨b1,0,none⟩)),(24,AI 16 (fun i=>m0 (12+i))),(25,iI io)]/\H=(b1,BK 28 (iv m0) 45)::([])) (fun x ex e H=>match x with | .inl _=>ex = .exit 0/\e=[]/\H=(b1,BK 28 (iv m0) 45)::([]) | .inr _=>ex = .ret/\e=[(2,.bool false)]/\H=(b1,BK 28 (iv m0) 45)::([])) fq ⟨Y,Y⟩ ?_ ?_
      . rintro io o _ _ ⟨rfl,rfl⟩ hb
        have h:OH m0 io o:=hb
        clear hb
        unfold OH at h
        refine wS (xQ Y (G6 Y Y) (nY (wd Y h (fun cb h=>?_) fun cb h=>?_)))
        . refine jS (Gz (wS (vm Y ?_)))
          obtain⟨eY,h⟩:=h
          refine xQ Y (AgS (j:=io.toNat) OZ Y Y eY Y D (fun _ _=>Y)) (xr Y (H8 XT Y) ?_)
          rintro _ _ ⟨b4,lw,rfl,rfl⟩
          refine va Y (xZ Y (JF Y Y Sw (List.Mem.head _) uH) (nY (wS (vm Y (Xf Ko Y Y (Xi (m0 11) GF Y Y (xQ Y (Ie Y Y) (nS (wd Y h (fun ct h=>?_) fun ct h=>?_)))))))))
          . refine Gu (wS (xQ Y (GA Y Sw (List.Mem.head _)) (xQ Y (Ht Ahi XT (.nil _)) (xQ Y (PC Ahm Y Y) (nS (wc Y h (fun dW h=>?_) fun dW h=>?_))))))
            . exact wS (va Y (nU (Gx (GB (Gx (xO h ⟨Y,Y,Y⟩))))))
            . refine jT (GJ (Gs (GD (Gt (Gr ?_)))))
              obtain⟨nP,h⟩:=h
              exact xQ Y (Hk Y Y Y nP) (vm Y (Gw (xN h ⟨Y,Y⟩)))
          . refine jS (Gu (wk [1,3,4,24,25] Y [(45,.bool ((!((Kh (m0 (12+(io.toNat*2))))))||(!((HM (m0 (12+((io.toNat*2)+1))) 1 1048576)))))] ?_ ?_))
            . refine Gr (Xf Kz Y Y (Xi (m0 (12+(io.toNat*2))) GF Y Y (xc Y TJ Y (fun w1 br=>Pj w1 _ (TD)) (xQ Y (Hh Y) (vm Y (QC 40 Y (fun cQ=>?_) fun cQ=>?_))))))
              . exact Ng cb ct cQ
              . exact Xf Rb Y Y (Xi (m0 (12+((io.toNat*2)+1))) GF Y Y (xc Y PI Y (fun w1 br=>K8 w1 _ (M0)) (xQ Y (Hh Y) (Ng cb ct cQ))))
            . refine Gt (wb Y h (fun cg h=>?_) fun cg h=>?_)
              . exact wS (va Y (nU (GB (Gx (xO h ⟨Y,Y,Y⟩)))))
              . refine jW (Xf Iu Y Y (vm Y ?_))
                obtain⟨dy,h⟩:=h
                refine xQ Y (AdF (h:=io.toNat) OZ Y Y (Int.toNat_of_nonneg dy.1).symm U) (xQ Y (PD Y underlying173 Y) (vm Y (nS (Gz ?_))))
                obtain⟨x2,kA,h⟩:=h
                refine xL (fun(sA:Int) e H=>e=[(1,.pointer (some ⟨b1,0,none⟩)),(4,.pointer (some ⟨b4,0,none⟩)),(24,AI 16 (fun i=>m0 (12+i))),(25,iI io),(48,.slice (some ⟨b1,12,none⟩) io.toNat 8),(49,iI (io.toNat:Int)),(50,iI sA)]/\H=(b4,BK 2 (iv (fun i=>(fun i=>m0 (12+i)) ((io.toNat*2)+i))) 42)::((b1,BK 28 (iv m0) 45)::([]))) (fun x ex e H=>match x with | .inl _=>ex = .exit 2/\e=[(1,.pointer (some ⟨b1,0,none⟩)),(24,AI 16 (fun i=>m0 (12+i))),(25,iI io)]/\H=(b4,BK 2 (iv (fun i=>(fun i=>m0 (12+i)) ((io.toNat*2)+i))) 42)::((b1,BK 28 (iv m0) 45)::([])) | .inr _=>ex = .ret/\e=[(2,.bool false)]/\H=(b4,BK 2 (iv (fun i=>(fun i=>m0 (12+i)) ((io.toNat*2)+i))) 42)::((b1,BK 28 (iv m0) 45)::([]))) kA ⟨Y,Y⟩ ?_ ?_
                . rintro sA o _ _ ⟨rfl,rfl⟩ hb
                  have h:OG m0 io sA o:=hb
                  clear hb
                  unfold OG at h
                  refine wS (xQ Y (G6 Y Y) (nY (wd Y h (fun cX h=>?_) fun cX h=>?_)))
                  . refine jS (Gz (wS ?_))
                    obtain⟨ek,h⟩:=h
                    refine xQ Y (Kf Vw Y Y ek Y) (xQ Y (Jx Y Sw (List.Mem.tail _ (List.Mem.head _)) (by have:=dy;have:=ek;omega) (fun _ _=>Y)) (xr Y (H8 XT Y) ?_))
                    rintro _ _ ⟨b6,og,rfl,rfl⟩
                    refine xZ Y (JF Y Y Sw (List.Mem.head _) uH) (nR (Xf Kz Y Y (Xi (m0 (12+(sA.toNat*2))) GF Y Y (Xf Kz Y Y (Xi (m0 (12+(io.toNat*2))) GF Y Y (xQ Y (GI Y Y) (nS (wd Y h (fun dd h=>?_) fun dd h=>?_))))))))
                    . exact wS (va Y (nV (GB (Gx (xO h ⟨Y,Y,Y⟩)))))
                    . refine GY (GZ 3 (Gt (Gr ?_)))
                      obtain⟨gl,h⟩:=h
                      exact xQ Y (Hk Y Y Y gl) (vm Y (Gw (xN h ⟨Y,Y⟩)))
                  . exact GJ (Gs (xO h ⟨Y,Y,Y⟩))
                . rcases x2 with _ | x2
                  . rintro _ _ _ ⟨rfl,rfl,rfl⟩
                    replace h:UI io o:=h
                    unfold UI at h
                    refine GD (GZ 1 (Gt (Gr ?_)))
                    obtain⟨gB,h⟩:=h
                    exact xQ Y (Hk Y Y Y gB) (vm Y (Gw (xN h ⟨Y,Y⟩)))
                  cases x2
                  rintro _ _ _ ⟨rfl,rfl,rfl⟩
                  replace h:UH o:=h
                  unfold UH at h
                  exact GB (GB (Gx (xO h ⟨Y,Y,Y⟩)))
        . exact GJ (Gs (xO h ⟨Y,Y,Y⟩))
      . rcases x1 with _ | x1
        . rintro _ _ _ ⟨rfl,rfl,rfl⟩
          replace h:UK r:=h
          unfold UK at h
          refine GD (qW (va Y (nV ?_)))
          subst h
          exact yA results139 Y [] KP (⟨Y,Y⟩)
        cases x1
        rintro _ _ _ ⟨rfl,rfl,rfl⟩
        replace h:UJ r:=h
        unfold UJ at h
        refine GB (Gx ?_)
        subst h
        exact yA results139 Y [] KP (⟨Y,Y⟩)
end Go.Proofs.YtljklmlodfbdnaaGreat
namespace Go.Proofs.YtljklmlodfbdnaaGreat
open Go Go.E Go.Proofs.Tryz
theorem Afv {m0 p0} (w) (hC:Has w (cat [[(p0,BK 28 (iv m0) 45)]])) (r) (h:AdY m0 r):Con prog 104 #[.pointer (some ⟨p0,0,none⟩)] w (IF fun v Ls=>Cov w (cat [[(p0,BK 28 (iv m0) 45)]]) (cat Ls)/\v = .bool r.1/\Ls=[[(p0,BK 28 (iv r.2) 45)]]):=by
  unfold AdY at h
  refine ce func104 Y ntmps104 Y (Ni hC ((p0,_)::([])) Y (wS (va Y (nR (va Y (nY (Gu ?_)))))))
  refine Gr (vm Y (vp Y (Xf G9 Y Y (Xi (m0 0) GF Y Y (nS (Gz (Gu (Gz (Gu (Gz (Gu (Gz ?_))))))))))))
  refine Gu (Gz (Gu (Gz (Gu (Gz (Gu (Gz (Gu (Gu (Gu (wS (xQ Y (GI Y Y) ?_))))))))))))
  refine va Y (nS (wk [0,3,7] Y [(8,.bool ((decide (m0 0=1))||(decide (m0 0=2))))] ?_ ?_))
  . refine Zh Y (fun bB=>?_) fun bB=>?_
    . exact GY (qk Y (by simp[bB]) Y)
    . exact Gr (xQ Y (GI Y Y) (va Y (Ma bB)))
  . refine Gt (wb Y h (fun bA h=>?_) fun bA h=>?_)
    . refine GJ (Gs (Gs (GD (Gt (Gu (Gu (wk [0] Y [(3,.bool (((((HQ (fun i=>m0 (5+i))))&&((HM (m0 7) 1 4)))&&((HM (m0 4) 1 1048576)))&&((Kh (m0 3)))))] ?_ ?_)))))))
      . refine Gr (vm Y (vp Y (Xf Ky Y Y (xQ Y (Jx Y I4 (List.Mem.head _) U (fun _ _=>Y)) (xc Y Ag4 Y (fun w1 br=>SP w1 _ (UC)) (vm Y (VZ 30 Y (fun cx=>?_) fun cx=>?_)))))))
        . refine vm Y (vp Y (Xf J4 Y Y (Xi (m0 7) NA Y Y (xc Y PI Y (fun w1 br=>K8 w1 _ (M0)) (vt Y (vm Y (VZ 37 Y (fun cb=>?_) fun cb=>?_)))))))
          . refine vm Y (vp Y (Xf K9 Y Y (Xi (m0 4) GF Y Y (xc Y PI Y (fun w1 br=>K8 w1 _ (M0)) (vt Y (vm Y (VZ 44 Y (fun dU=>?_) fun dU=>?_)))))))
            . exact vm Y (vp Y (Xf HG Y Y (Xi (m0 3) GF Y Y (xc Y TJ Y (fun w1 br=>Pj w1 _ (TD)) (vt Y (va Y (V2 bA cx cb dU)))))))
            . exact vs Y (vs Y (vs Y (vs Y (vs Y (vf Y (va Y (V2 bA cx cb dU)))))))
          . refine vs Y (vs Y (vs Y (vs Y (vs Y (vf Y (vm Y (vs Y (vs Y (vs Y (vs Y (vs Y (vf Y (va Y ?_)))))))))))))
            exact Ng bA cx cb
        . refine vs Y (vs Y (vs Y (vs Y (vs Y (vf Y (vm Y (vs Y (vs Y (vs Y (vs Y (vs Y (vf Y (vm Y ?_)))))))))))))
          exact vs Y (vs Y (vs Y (vs Y (vs Y (vf Y (va Y (P2 bA cx)))))))
      . refine Gt (Gr (vm Y (vm Y (vm Y (vm Y (xQ Y (Ht Ahj AcT (.nil _)) (vp Y (Xf Ky Y Y (xZ Y (UP Y Y I4 (List.Mem.head _) U uH) (vp Y (Xf J4 Y Y (xZ Y (HS Y Y NA (List.Mem.head _) U uH) (vp Y ?_)))))))))))))
        refine Xf K9 Y Y (xZ Y (HS Y Y GF (List.Mem.head _) U uH) (vp Y (Xf HG Y Y (xZ Y (HS Y Y GF (List.Mem.head _) U uH) (nS (GJ (Gy Y (Gs (Gy Y (Gs (Gy Y (Gs ?_))))))))))))
        refine Gy Y (Gs (Gy Y (Gs (Gy Y (Gs (GD (qW (vm Y (va Y (nS ?_))))))))))
        refine Hl ?_
        subst h
        exact rO results104 Y (⟨[[(p0,_)]],Y,KV,Y,Y⟩)
    . refine jS (wS (xQ Y (GI Y Y) (va Y (nS (wd Y h (fun ct h=>?_) fun ct h=>?_)))))
      . refine GJ (Gs (Gs (Gy Y (Gs (GD (Gt (Gu (wk [0] Y [(3,.bool (((HM (m0 4) 1 1048576))&&((HM (m0 8) 1 15))))] ?_ ?_))))))))
        . refine Gr (vm Y (vp Y (Xf K9 Y Y (Xi (m0 4) GF Y Y (xc Y PI Y (fun w1 br=>K8 w1 _ (M0)) (vm Y (VZ 69 Y (fun dW=>?_) fun dW=>?_)))))))
          . exact vm Y (vp Y (Xf Hi Y Y (Xi (m0 8) GF Y Y (xc Y PI Y (fun w1 br=>K8 w1 _ (M0)) (vt Y (va Y (Ng bA ct dW)))))))
          . exact vs Y (vs Y (vs Y (vs Y (vs Y (vf Y (va Y (Ng bA ct dW)))))))
        . refine Gt (Gr (vm Y (vm Y (vp Y (Xf K9 Y Y (xZ Y (HS Y Y GF (List.Mem.head _) U uH) (vp Y (Xf Hi Y Y (xZ Y (HS Y Y GF (List.Mem.head _) U uH) (Gw (GZ 3 (Gt (Gu ?_)))))))))))))
          refine wk [0] Y [(3,.bool ((((HM (m0 4) 1 1048576))&&((HM (m0 8) 1 15)))&&((HM 0 0 1))))] ?_ ?_
          . refine Gr (vm Y (vm Y (VZ 83 Y (fun co=>?_) fun co=>?_)))
            . exact vm Y (vp Y (Xf Hi Y Y (Xi 0 GF Y Y (xc Y PI Y (fun w1 br=>K8 w1 _ (M0)) (vt Y (va Y (Ng bA ct co)))))))
            . exact vs Y (vs Y (vs Y (vs Y (vs Y (vf Y (va Y (Ng bA ct co)))))))
          . refine Gt (Gr (vm Y (vp Y (Xf Hi Y Y (xZ Y (HS Y Y GF (List.Mem.head _) U uH) (Gw (GZ 4 (Gt (Gu (Gu (wk [0] Y [(3,.bool (((((HM (m0 4) 1 1048576))&&((HM (m0 8) 1 15)))&&((HM 0 0 1)))&&((Kh (m0 3)))))] ?_ ?_)))))))))))
            . refine Gr (vm Y (vm Y (VZ 94 Y (fun cQ=>?_) fun cQ=>?_)))
              . exact vm Y (vp Y (Xf HG Y Y (Xi (m0 3) GF Y Y (xc Y TJ Y (fun w1 br=>Pj w1 _ (TD)) (vt Y (va Y (Ng bA ct cQ)))))))
              . exact vs Y (vs Y (vs Y (vs Y (vs Y (vf Y (va Y (Ng bA ct cQ)))))))
            . refine Gt (Gr (vm Y (vp Y (Xf HG Y Y (xZ Y (HS Y Y GF (List.Mem.head _) U uH) (nS (GJ (Gy Y (Gs (Gy Y (Gs (Gy Y ?_))))))))))))
              refine Gs (GD (qW (vm Y (va Y (nV ?_)))))
              subst h
              exact rO results104 Y (⟨[[(p0,_)]],Y,KV,Y,Y⟩)
      . refine jS (Gu (wS (xQ Y (GI Y Y) (va Y (nS (wk [0,3,7] Y [(13,.bool ((decide (m0 0=5))||(decide (m0 0=6))))] ?_ ?_))))))
        . refine Zh Y (fun cg=>?_) fun cg=>?_
          . exact GY (qk Y (by simp[bA,ct,cg]) Y)
          . exact Gr (xQ Y (GI Y Y) (va Y (Ng bA ct cg)))
        . refine Gt (wb Y h (fun dz h=>?_) fun dz h=>?_)
          . refine GJ (Gs (Gs (Gy Y (Gs (Gy Y (Gs (GD (Gt (Gu (wk [0] Y [(3,.bool ((HM (m0 8) 0 1)))] ?_ ?_))))))))))
            . exact Gr (vm Y (vm Y (vm Y (vp Y (Xf Hi Y Y (Xi (m0 8) GF Y Y (xc Y PI Y (fun w1 br=>K8 w1 _ (M0)) (vt Y (va Y (Ng bA ct dz))))))))))
            . refine Gt (Gr (vm Y (vp Y (Xf Hi Y Y (xZ Y (HS Y Y GF (List.Mem.head _) U uH) (Gw (GZ 4 (Gt (Gu (Gu (wk [0] Y [(3,.bool (((HM (m0 8) 0 1))&&((Kh (m0 3)))))] ?_ ?_)))))))))))
              . refine Gr (vm Y (vm Y (VZ 94 Y (fun cX=>?_) fun cX=>?_)))
                . exact vm Y (vp Y (Xf HG Y Y (Xi (m0 3) GF Y Y (xc Y TJ Y (fun w1 br=>Pj w1 _ (TD)) (vt Y (va Y (V2 bA ct dz cX)))))))
                . exact vs Y (vs Y (vs Y (vs Y (vs Y (vf Y (va Y (V2 bA ct dz cX)))))))
              . refine Gt (Gr (vm Y (vp Y (Xf HG Y Y (xZ Y (HS Y Y GF (List.Mem.head _) U uH) (nS (GJ (Gy Y (Gs (Gy Y (Gs (Gy Y ?_))))))))))))
                refine Gs (GD (qW (vm Y (va Y (nV ?_)))))
                subst h
                exact rO results104 Y (⟨[[(p0,_)]],Y,KV,Y,Y⟩)
          . refine jS (Gu (wS (xQ Y (GI Y Y) (va Y (nS (wk [0,3,7] Y [(16,.bool ((decide (m0 0=4))||((decide (m0 0=7))||((decide (m0 0=8))||(decide (m0 0=9))))))] ?_ ?_))))))
            . refine Zh Y (fun dL=>?_) fun dL=>?_
              . exact GY (qk Y (by simp[bA,ct,dz,dL]) Y)
              . refine wS (xQ Y (GI Y Y) (va Y (nS (wk [0,3,7] Y [(16,.bool ((decide (m0 0=7))||((decide (m0 0=8))||(decide (m0 0=9)))))] ?_ ?_))))
                . refine Zh Y (fun dd=>?_) fun dd=>?_
                  . exact GY (qk Y (by simp[bA,ct,dz,dL,dd]) Y)
                  . refine wS (xQ Y (GI Y Y) (va Y (nS (wk [0,3,7] Y [(16,.bool ((decide (m0 0=8))||(decide (m0 0=9))))] ?_ ?_))))
                    . refine Zh Y (fun eM=>?_) fun eM=>?_
                      . exact GY (qk Y (by simp[bA,ct,dz,dL,dd,eM]) Y)
                      . exact Gr (xQ Y (GI Y Y) (va Y (VQg bA ct dz dL dd eM)))
                    . exact qk Y (by simp[bA,ct,dz,dL,dd]) Y
                . exact qk Y (by simp[bA,ct,dz,dL]) Y
            . refine Gt (wb Y h (fun dm h=>?_) fun dm h=>?_)
              . refine GJ (Gs (Gs (Gy Y (Gs (Gy Y (Gs (Gy Y (Gs (GD (Gt (Gu (Gu (wk [0] Y [(3,.bool ((Kh (m0 3))))] ?_ ?_)))))))))))))
                . exact Gr (vm Y (vm Y (vm Y (vp Y (Xf HG Y Y (Xi (m0 3) GF Y Y (xc Y TJ Y (fun w1 br=>Pj w1 _ (TD)) (vt Y (va Y (V2 bA ct dz dm))))))))))
                . refine Gt (Gr (vm Y (vp Y (Xf HG Y Y (xZ Y (HS Y Y GF (List.Mem.head _) U uH) (nS (GJ (Gy Y (Gs (Gy Y (Gs (Gy Y ?_))))))))))))
                  refine Gs (GD (qW (vm Y (va Y (nV ?_)))))
                  subst h
                  exact rO results104 Y (⟨[[(p0,_)]],Y,KV,Y,Y⟩)
              . refine jS (wS (xQ Y (GI Y Y) (va Y (nS (wd Y h (fun cn h=>?_) fun cn h=>?_)))))
                . refine GJ (Gs (Gs (Gy Y (Gs (Gy Y (Gs (Gy Y (Gs (Gy Y (Gs (GD (Gt (Gu ?_)))))))))))))
                  refine Gu (wk [0] Y [(3,.bool ((((Kh (m0 3)))&&((Kh (m0 9))))&&(decide (m0 9<m0 3))))] ?_ ?_)
                  . refine GK Z Z (fun hok=>?_)
                    refine Bm hok 0 Y Z Y (Bp hok 1 Y Z Y (Bf HG hok 2 Y Z Y (Bl (iI (m0 3)) GF hok 3 Y Z Y (List.Mem.head _) (xb hok 4 [107] Y Z (fun _ hK=>JW TJ Y (fun w1 br=>Pj w1 _ (TD))) (Bm hok 5 Y Z Y (db' 109 Y (fun cq=>?_) fun cq=>?_))))))
                    . refine Bm hok 6 Y Z Y (Bp hok 7 Y Z Y (Bf Hx hok 8 Y Z Y (Bl (iI (m0 9)) GF hok 9 Y Z Y (List.Mem.head _) (xb hok 10 [113,109] Y Z (fun _ hK=>JW TJ Y (fun w1 br=>Pj w1 _ (TD))) (xb hok 11 [109,114] Y Z (fun _ hK=>HW Y Y) (Bm hok 12 Y Z Y (db' 116 Y (fun kl=>?_) fun kl=>?_)))))))
                      . exact Bm hok 13 Y Z Y (Bp hok 14 Y Z Y (Bf Hx hok 15 Y Z Y (Bl (iI (m0 9)) GF hok 16 Y Z Y (List.Mem.head _) (Bm hok 17 Y Z Y (Bp hok 18 Y Z Y (Bf HG hok 19 Y Z Y (Bl (iI (m0 3)) GF hok 20 Y Z Y (List.Mem.head _) (xb hok 21 [120,124,116] Y Z (fun _ hK=>G6 Y Y) (xb hok 22 [116,125] Y Z (fun _ hK=>HW Y Y) (Ba hok 23 Y Z Y (GM hok Z (qk Y (by simp[bA,ct,dz,dm,cn,cq,kl]) Y))))))))))))
                      . exact Bs hok 13 Y Z (Bs hok 14 Y Z (Bs hok 15 Y Z (Bs hok 16 Y Z (Bs hok 17 Y Z (Bs hok 18 Y Z (Bs hok 19 Y Z (Bs hok 20 Y Z (Bs hok 21 Y Z (xb hok 22 [116,125] Y Z (fun _ hK=>H4 Y Y) (Ba hok 23 Y Z Y (GM hok Z (qk Y (by simp[bA,ct,dz,dm,cn,cq,kl]) Y))))))))))))
                    . refine Bs hok 6 Y Z (Bs hok 7 Y Z (Bs hok 8 Y Z (Bs hok 9 Y Z (Bs hok 10 Y Z (xb hok 11 [109,114] Y Z (fun _ hK=>H4 Y Y) (Bm hok 12 Y Z Y (Bs hok 13 Y Z (Bs hok 14 Y Z (Bs hok 15 Y Z (Bs hok 16 Y Z (Bs hok 17 Y Z (Bs hok 18 Y Z (Bs hok 19 Y Z ?_)))))))))))))
                      exact Bs hok 20 Y Z (Bs hok 21 Y Z (xb hok 22 [116,125] Y Z (fun _ hK=>H4 Y Y) (Ba hok 23 Y Z Y (GM hok Z (qk Y (by simp[bA,ct,dz,dm,cn,cq]) Y)))))
                  . refine Gt (Gr (vm Y (vm Y (vp Y (Xf HG Y Y (xZ Y (HS Y Y GF (List.Mem.head _) U uH) (vp Y (Xf Hx Y Y (xZ Y (HS Y Y GF (List.Mem.head _) U uH) (nS (GJ (Gy Y ?_))))))))))))
                    refine Gs (Gy Y (Gs (GD (qW (vm Y (va Y (nV ?_)))))))
                    subst h
                    exact rO results104 Y (⟨[[(p0,_)]],Y,KV,Y,Y⟩)
                . refine jW (xQ Y (GI Y Y) (va Y (nS (wd Y h (fun dS h=>?_) fun dS h=>?_))))
                  . refine GJ (Gs (Gy Y (Gs (Gy Y (Gs (Gy Y (Gs (Gy Y (Gs (Gy Y (Gs (GD (Gt ?_)))))))))))))
                    refine Gu (wS (vm Y (vp Y (xQ Y (GA Y Hm (List.Mem.head _)) (xc Y Aio Y (fun w1 br=>Adw w1 _ (Afp)) (va Y (nS (Gr (vm Y (vm Y (vm Y ?_)))))))))))
                    refine vm Y (xQ Y (AgT OZ Ai1) (vp Y (Xf Ko Y Y (xZ Y (HS Y Y GF (List.Mem.head _) U uH) (vp Y (Xf Hx Y Y (xZ Y (HS Y Y GF (List.Mem.head _) U uH) (vp Y (Xf Lv Y Y (xZ Y (HS Y Y GF (List.Mem.head _) U uH) (vp Y (Xf Iu Y Y (xZ Y (UP Y Y Afa (List.Mem.head _) U uH) ?_)))))))))))))
                    refine nS (GJ (Gy Y (Gs (GD (qW (vm Y (va Y (nV ?_))))))))
                    subst h
                    exact rO results104 Y (⟨[[(p0,_)]],Y,KV,Y,Y⟩)
                  . refine jT (GJ (Gy Y (Gs (Gy Y (Gs (Gy Y (Gs (Gy Y (Gs (Gy Y (Gs (Gy Y ?_))))))))))))
                    refine Gs (GD (Gt (Gu (wS (va Y (nU (GB (Gx ?_))))))))
                    subst h
                    exact rO results104 Y (⟨[[(p0,_)]],Y,KV,Y,Y⟩)
theorem S0 {m0} (w) (r) (h:Xa m0 r):Con prog 55 #[AI 28 m0] w (Is (I8 86 r) []):=by
  unfold Xa at h
  refine ce func55 Y ntmps55 Y (wS (xr Y (He Y) ?_))
  rintro _ _ ⟨b1,ko,rfl,rfl⟩
  refine va Y (nR (xQ Y (GA Y Hm (List.Mem.head _)) (xr Y (H8 Lf Y) ?_)))
  rintro _ _ ⟨b3,iU,rfl,rfl⟩
  refine xZ Y (JF Y Y Hm (List.Mem.head _) uH) (nY (wS (xQ Y (GA Y Hm (List.Mem.tail _ (List.Mem.head _))) (xc Y AiD Y (fun w1 br=>Aex w1 _ (AfK)) (xQ Y (Hh Y) (vm Y (oc 8 Y h (fun bB h=>?_) fun bB h=>?_)))))))
  . refine vs Y (vs Y (vt Y (vm Y (vs Y (vs Y (vs Y (vs Y (vs Y (vs Y (vs Y (vs Y (vs Y (vt Y ?_)))))))))))))
    refine nS (GQ Y Y (wS (xQ Y (HE Y underlying86 Y) (va Y (nU ?_)))))
    subst h
    exact yA results55 Y [] KP (⟨Y,Y⟩)
  . refine xr Y (OT.st (fun _ h=>h) (GC (Cs:=[[(b3,_)]]) (Rs:=[[(b1,_)]]) AiC Y (fun w1 br=>Afv w1 (St.hasC br) _ (AgY)) (fun _ _ _ h=>h.1))) ?_
    rintro _ _ ⟨w1,_,rfl,hle,-,rfl,rfl⟩
    refine G0 ((b3,_)::((b1,_)::([]))) (fun _ h=>h) (xQ Y (Hh Y) (vf Y (vm Y (oc 12 Y h (fun cb h=>?_) fun cb h=>?_))))
    . refine vs Y (vs Y (vs Y (vs Y (vs Y (vs Y (vs Y (vs Y (vs Y (vt Y (nS (GQ Y Y (Gu ?_))))))))))))
      refine Gr (xQ Y (HE Y underlying86 Y) (va Y (nU ?_)))
      subst h
      exact yA results55 Y [] KP (⟨Y,Y⟩)
    . refine xQ Y (GA Y Hm (List.Mem.head _)) (Xf G9 Y Y (Xi (m0 0) GF Y Y (Xf IE Y Y (Xi (m0 1) GF Y Y (Xf Jz Y Y (Xi (m0 2) GF Y Y (xQ Y (Ht XC Lf (.int G9 Y Y (.int IE Y Y (.int Jz Y Y (.nil _))))) (xQ Y (PC Lx Y Y) (vf Y (nS (wc Y h (fun dU h=>?_) fun dU h=>?_)))))))))))
      . refine wS (xQ Y (HE Y underlying86 Y) (va Y (nU ?_)))
        subst h
        exact yA results55 Y [] KP (⟨Y,Y⟩)
      . refine jW (va Y (nV ?_))
        subst h
        exact yA results55 Y [] KP (⟨Y,Y⟩)
end Go.Proofs.YtljklmlodfbdnaaGreat
