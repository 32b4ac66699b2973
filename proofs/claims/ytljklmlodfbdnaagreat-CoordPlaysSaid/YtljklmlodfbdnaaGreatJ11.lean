/- Part 11 of the proof. -/
import Derived.Test.YtljklmlodfbdnaaGreatJ6
import Derived.Test.YtljklmlodfbdnaaGreatJ2
set_option maxHeartbeats 1000000
set_option maxRecDepth 100000
set_option linter.unusedVariables false
set_option linter.unusedSimpArgs false
set_option linter.unusedSectionVars false
set_option linter.unnecessarySimpa false
namespace Go.E
open Go
def Pt (c:Nat->Int) (N:Int) (s:KS) (a:Nat->Int):LM×Int×Int×KS:=
 if 0<=a 0/\a 0<=3 then((Zd c N s (a 0) (a 1) (fun i=>a (2+i)) (a 4)).1,0,(Zd c N s (a 0) (a 1) (fun i=>a (2+i)) (a 4)).2.1,(Zd c N s (a 0) (a 1) (fun i=>a (2+i)) (a 4)).2.2)
 else if a 0=4 then([],(HZ N s (a 1)).1,(HZ N s (a 1)).2.1,(HZ N s (a 1)).2.2)
 else if a 0=5 then((IB (c 0) (nz (c 1)) s (fun i=>a (5+i))).1,0,(IB (c 0) (nz (c 1)) s (fun i=>a (5+i))).2.1,(IB (c 0) (nz (c 1)) s (fun i=>a (5+i))).2.2)
 else if a 0=6 then((Kd c s).1,0,0,(Kd c s).2)
 else([],0,0,s)
def E15 (e:Int):Prop:=0<=e/\e<=15
theorem O3 {e:Int} (h:E15 e):Hp e=e:=by unfold Hp;exact Ae h
theorem AiP {t:TT} {x:Int} {a:Nat->Int} {m:Int}:E15 (Lc t x a m).2.2:=by
 unfold Lc Ts
 repeat' split
 all_goals exact⟨by dsimp only;decide,by dsimp only;decide⟩
theorem AiJ {t:TT}:E15 (PU t).2.2:=by
 unfold PU Tq
 repeat' split
 all_goals exact⟨by dsimp only;decide,by dsimp only;decide⟩
theorem AfW {t:TT} {r:Int}:E15 (IK t r).2.2:=by
 unfold IK Le
 repeat' split
 all_goals exact⟨by dsimp only;decide,by dsimp only;decide⟩
theorem AbB (N:Int) (c:Nat->Int) (id:Int):E15 (HV N c id):=by
 unfold HV
 repeat' split
 all_goals exact⟨Ab,Ab⟩
theorem AeB (s:KS) {r:TT×LM×Int} (h:E15 r.2.2):E15 (Lb s r).2.1:=by
 unfold Lb
 split
 .exact⟨by dsimp only;decide,by dsimp only;decide⟩
 .exact h
theorem E15.n (k:Int) (h:0<=k/\k<=15):E15 k:=h
theorem AjU (c:Nat->Int) (N:Int) (s:KS) (k id:Int) (a:Nat->Int) (m:Int):E15 (Zd c N s k id a m).2.1:=by
 have ha:=AbB N s.cl id
 have h0:E15 0:=⟨Ab,Ab⟩
 have h1:E15 1:=⟨Ab,Ab⟩
 have r3:E15 10:=⟨Ab,Ab⟩
 have oJ:E15 11:=⟨Ab,Ab⟩
 unfold Zd
 split
 .unfold IT
  split
  .split
   .exact r3
   .split
    .split
     .exact h0
     .exact AiP
    .exact h1
  .exact ha
 .split
  .unfold Ia
   split
   .split
    .exact r3
    .exact AeB s (AiJ)
   .exact ha
  .split
   .unfold Ii
    split
    .split
     .exact r3
     .unfold HC
      split
      .exact AeB s (AfW)
      .exact oJ
    .exact ha
   .unfold Jl
    split
    .exact h0
    .exact ha
theorem AfQ {N:Int} {s:KS} {id:Int}:E15 (HZ N s id).2.1:=by
 have ha:=AbB N s.cl id
 unfold HZ
 split
 .split
  .exact⟨by dsimp only;decide,by dsimp only;decide⟩
  .exact⟨by dsimp only;decide,by dsimp only;decide⟩
 .exact ha
theorem Aet {sh:Int} {pr:Bool} {s:KS} {m:Nat->Int}:E15 (IB sh pr s m).2.1:=by
 unfold IB
 repeat' split
 all_goals exact⟨by dsimp only;decide,by dsimp only;decide⟩
section
variable {N:Int} {n:Nat} {s:KS} {cls:LM}
theorem AdR (c:Nat->Int) (N:Int) (s:KS) (a:Nat->Int):PE c N s a=(Pt c N s a).2.2.2:=by
 unfold PE Pt Zd
 by_cases h0:a 0=0
 .rw[Ae h0,Ae Aa,Ae h0]
 rw[Af h0]
 by_cases h1:a 0=1
 .rw[Ae h1,Ae Aa,Af h0,Ae h1]
 rw[Af h1]
 by_cases h2:a 0=2
 .rw[Ae h2,Ae Aa,Af h0,Af h1,Ae h2]
 rw[Af h2]
 by_cases h3:a 0=3
 .rw[Ae h3,Ae Aa,Af h0,Af h1,Af h2]
 rw[Af h3,Af (show ¬ (0<=a 0/\a 0<=3) by omega)]
 by_cases h4:a 0=4
 .rw[Ae h4,Ae h4]
 rw[Af h4,Af h4]
 by_cases h5:a 0=5
 .rw[Ae h5,Ae h5]
 rw[Af h5,Af h5]
 by_cases h6:a 0=6
 .rw[Ae h6,Ae h6]
 rw[Af h6,Af h6]
theorem AiN (c:Nat->Int) (N:Int) (s:KS) (k id:Int) (a:Nat->Int) (m:Int):(Zd c N s k id a m).2.2.ti=s.ti:=by
 unfold Zd
 split
 .exact(U2 _ _ _ _ _ _).1
 .split
  .exact(Sa _ _ _).1
  .split
   .exact(Sd _ _ _).1
   .exact(TN _ _ _).1
theorem AcO (h:KI N n s) (hn:n<=90000) (c:Nat->Int) (hc:1<=c 0/\c 0<=64) (wr:c 3≠0) (a:Nat->Int) :
  (LG c s.cl s.ti s.la s.m s.tr a).1=(Pt c N s a).1/\(LG c s.cl s.ti s.la s.m s.tr a).2.1=(Pt c N s a).2.1/\(LG c s.cl s.ti s.la s.m s.tr a).2.2.1=(Pt c N s a).2.2.1:=by
 have z:Hp 0=0:=O3 ⟨Ab,Ab⟩
 have hd:=AjU c N s (a 0) (a 1) (fun i=>a (2+i)) (a 4)
 unfold LG Pt
 unfold Zd at hd ⊢
 by_cases h0:a 0=0
 .rw[Ae h0] at hd
  rw[Ae h0,Ae Aa,Ae h0,(U6 h Aa c hc (a 1) (fun i=>a (2+i)) (a 4)).2]
  exact⟨rfl,rfl,O3 hd⟩
 rw[Af h0] at hd
 rw[Af h0]
 by_cases h1:a 0=1
 .rw[Ae h1] at hd
  rw[Ae h1,Ae Aa,Af h0,Ae h1,(Q0 h Aa c (a 1)).2]
  exact⟨rfl,rfl,O3 hd⟩
 rw[Af h1] at hd
 rw[Af h1]
 by_cases h2:a 0=2
 .rw[Ae h2] at hd
  rw[Ae h2,Ae Aa,Af h0,Af h1,Ae h2,(Vc h Aa c (a 1)).2]
  exact⟨rfl,rfl,O3 hd⟩
 rw[Af h2] at hd
 rw[Af h2]
 by_cases h3:a 0=3
 .rw[Ae h3,Ae Aa,Af h0,Af h1,Af h2,(Wp h Aa c (a 1)).2]
  exact⟨rfl,rfl,O3 hd⟩
 rw[Af h3,Af (show ¬ (0<=a 0/\a 0<=3) by omega)]
 by_cases h4:a 0=4
 .rw[Ae h4,Ae h4,(Th h Aa c (a 1)).2]
  exact⟨rfl,rfl,O3 (AfQ)⟩
 rw[Af h4,Af h4]
 by_cases h5:a 0=5
 .rw[Ae h5,Ae h5,(U7 h Aa c (fun i=>a (5+i))).2]
  exact⟨rfl,rfl,O3 (Aet)⟩
 rw[Af h5,Af h5]
 by_cases h6:a 0=6
 .rw[Ae h6,Ae h6]
  exact⟨rfl,rfl,z⟩
 rw[Af h6,Af h6]
 exact⟨rfl,rfl,z⟩
theorem AbL (h:KI N n s) (hn:n<=80000) (hS:Same16 N s.cl cls) {c:Nat->Int} (hc:1<=c 0/\c 0<=64) (wr:c 3≠0) (a:Nat->Int):Mx c cls s.ti (GR s) s.tr a /\
  ∃ cls',Same16 N (Pt c N s a).2.2.2.cl cls'/\Rp c cls s.ti (GR s) s.tr a=((Pt c N s a).1,(Pt c N s a).2.1,(Pt c N s a).2.2.1,cls',(Pt c N s a).2.2.2.ti,GR (Pt c N s a).2.2.2,(Pt c N s a).2.2.2.tr):=by
 unfold Mx Rp Pt
 by_cases DP:0<=a 0/\a 0<=3
 .have hd:((decide (a 0=0))||((decide (a 0=1))||((decide (a 0=2))||(decide (a 0=3)))))=true:=by
   simp only[Bool.or_eq_true,decide_eq_true_eq];omega
  obtain⟨v1,cls',v2,v3⟩:=AgD h Aa hS hc DP (a 1) (fun i=>a (2+i)) (a 4)
  rw[Ae hd,Ae hd,Ae DP,v3]
  refine⟨⟨v1,trivial⟩,cls',v2,?_⟩
  rw[AiN]
 have hd:¬ ((decide (a 0=0))||((decide (a 0=1))||((decide (a 0=2))||(decide (a 0=3)))))=true:=by
  simp only[Bool.or_eq_true,decide_eq_true_eq];omega
 rw[Af hd,Af hd,Af DP]
 by_cases h4:a 0=4
 .obtain⟨v1,cls',v2,v3⟩:=AbQ h Aa hS c s.ti (a 1)
  rw[Ae h4,Ae h4,Ae h4,v3]
  refine⟨⟨v1,trivial⟩,cls',v2,?_⟩
  rw[TO]
 rw[Af h4,Af h4,Af h4]
 by_cases h5:a 0=5
 .obtain⟨v1,cls',v2,v3⟩:=Zo h Aa hS c s.ti (fun i=>a (5+i))
  have ht:=(R1 (c 0) (nz (c 1)) s (fun i=>a (5+i))).1
  rw[Ae h5,Ae h5,Ae h5,ht]
  unfold Sq IB
  by_cases ho:Pf (fun i=>a (5+i))=true
  .rw[Ae ho,Ae ho]
   by_cases hq:((!(decide ((fun i=>a (5+i)) 2=0)))||(decide (c 0<(fun i=>a (5+i)) 1)))=true
   .rw[Ae hq,Ae hq]
    exact⟨trivial,cls,hS,rfl⟩
   .rw[Af hq,Af hq,Ae rfl,Ae rfl,v3]
    exact⟨⟨v1,trivial⟩,cls',v2,rfl⟩
  .rw[Af ho,Af ho]
   exact⟨trivial,cls,hS,rfl⟩
 rw[Af h5,Af h5,Af h5]
 by_cases h6:a 0=6
 .obtain⟨v1,cls',v2,v3⟩:=AcZ h hn hS wr
  have e:(Kd c s).2.ti=s.ti+1:=by rw[T6];exact(Rx h c).2.2.1
  rw[Ae h6,Ae h6,Ae h6,v3]
  refine⟨⟨v1,trivial⟩,cls',v2,?_⟩
  rw[e]
 rw[Af h6,Af h6,Af h6]
 exact⟨trivial,cls,hS,rfl⟩
theorem AeA (s:KS) {r:TT×LM×Int} {k:Nat} (h:r.2.1.length<=k):(Lb s r).1.length<=k:=by
 unfold Lb
 split
 .exact h
 .exact Nat.zero_le _
theorem Yy {n:Nat} {t:TT} (h:TIT n t) (f:Int->Nat->Int):(t.2.2.2.2.2.2.2.2.1.map f).length<=64:=by
 rw[List.length_map];exact TI.lto h
theorem AfG {n:Nat} {t:TT} (h:TIT n t):(PU t).2.1.length<=64:=by
 unfold PU Tq
 repeat' split
 all_goals first | exact Nat.zero_le _ | exact Yy h _
theorem Ac1 {n:Nat} {t:TT} (h:TIT n t) (m:Nat->Int):(KQ t m).2.1.length<=64:=by
 unfold KQ O9
 repeat' split
 all_goals first | exact Nat.zero_le _ | exact Yy h _
theorem AfS {t:TT} {x:Int} {a:Nat->Int} {m:Int}:(Lc t x a m).2.1.length<=64:=by
 unfold Lc Ts
 repeat' split
 all_goals first | exact Nat.zero_le _ | exact(show 1<=64 by decide)
theorem Afi (h:KI N n s) (hn:n<=80000) (hS:Same16 N s.cl cls) (c a:Nat->Int):(Pt c N s a).1.length<=100000000:=by
 have hab:∀ tx re:Int,∀ l:List Int,(∀ x∈l,1<=x)->(HC s tx re l).1.length<=100000000:=fun tx re l hl=>Nat.le_trans (O8 h tx re hl) Ab
 unfold Pt
 split
 .unfold Zd
  split
  .unfold IT
   split
   .split
    .exact Nat.zero_le _
    .split
     .split
      .exact Nat.le_trans (AfS) Ab
      .exact Nat.zero_le _
     .exact Nat.zero_le _
   .exact Nat.zero_le _
  .split
   .unfold Ia
    split
    .rename_i ha
     split
     .exact Nat.zero_le _
     .rename_i h0
      have hw:=h.now ha h0
      exact Nat.le_trans (AeA s (AfG (h.hT _ hw.1 hw.2).1)) Ab
    .exact Nat.zero_le _
   .split
    .unfold Ii
     split
     .split
      .exact Nat.zero_le _
      .exact hab _ _ _ Ad
     .exact Nat.zero_le _
    .exact Nat.zero_le _
 .split
  .exact Nat.zero_le _
  .split
   .unfold IB
    split
    .split
     .exact Nat.zero_le _
     .dsimp only
      unfold L8
      split
      .unfold JE
       split
       .split
        .split
         .exact hab _ _ _ Ad
         .split
          .exact Nat.zero_le _
          .split
           .exact(show 1<=100000000 by decide)
           .exact Nat.zero_le _
        .exact Nat.zero_le _
       .exact Nat.zero_le _
      .split
       .rename_i hm
        have hw:=(h.hk _).1 hm
        split
        .unfold Rj
         split <;> exact Nat.zero_le _
        .split
         .unfold Rj
          split <;> exact Nat.zero_le _
         .split
          .unfold TA
           split
           .exact Nat.le_trans (Ac1 (h.hT _ hw.1 hw.2).1 _) Ab
           .exact Nat.zero_le _
          .split
           .unfold Y9
            split <;> exact Nat.zero_le _
           .split
            .exact hab _ _ _ Ad
            .split
             .unfold L0
              split
              .exact Nat.zero_le _
              .exact hab _ _ _ Ad
             .exact Nat.zero_le _
       .exact Nat.zero_le _
    .exact Nat.zero_le _
   .split
    .have hll:=Ob s.cl (s.ti+1) (c 2)
     have hL:KI N (n+1) {s with ti:=s.ti+1}:=h.later
     obtain⟨cls',w1,w2⟩:=RV (s:={s with ti:=s.ti+1}) hL hS c (s.ti+1) (HU s.cl (s.ti+1) (c 2)) Aa (fun x hx=>Xb h hx) []
     obtain⟨i1,i2,i3,i4⟩:=Mt hL (HU s.cl (s.ti+1) (c 2)) []
     have w1':Same16 N (Jn c s).2.cl cls':=w1
     have i1':KI N _ (Jn c s).2:=i1
     have i2':(Jn c s).1.length<=0+64*(HU s.cl (s.ti+1) (c 2)).length:=i2
     have hA:=Rk i1' w1' _ (Nat.le_refl _)
     rw[WE i1' w1'] at hA
     have hA2:=JR i1'
     have hA3:=i1'.hl
     show(Kd c s).1.length<=_
     unfold Kd
     split
     .rw[List.length_append];omega
     .omega
    .exact Nat.zero_le _
theorem AaP (h:KI N n s) (hn:n<=100000) (c c':Nat->Int) (cls:LM):RJ c s.cl s.ti s.la s.m s.tr c' cls s.ti (GR s) s.tr:=by
 have hl:=JR h
 have hL:=h.hl
 have hr:=h.hr
 refine⟨h.viewP hn c,?_,Aa,Aa,fun k hk=>?_⟩
 .have:=h.view c
  rw[hl]
  unfold Qn at this ⊢
  dsimp only at this
  rw[this]
  rfl
 .obtain⟨e,h1⟩:=T3 h hk
  have hT:=(h.hT _ h1.1 h1.2).1
  rw[e]
  exact⟨Nat.le_trans (TI.lto hT) Ab,Nat.le_trans (TI.lvo hT) Ab,Nat.le_trans (TI.lac hT) Ab,Nat.le_trans (show _<=n from hT.hgo) Aa⟩
end
theorem Aaq (c:Nat->Int):Ja c=true↔(1<=c 0/\c 0<=64)/\(1<=c 2/\c 2<=1000)/\(1<=c 3/\c 3<=1000)/\(1<=c 4/\c 4<=4096)/\(1<=c 5/\c 5<=64)/\(1<=c 6/\c 6<=65536):=by
 unfold Ja
 simp only[Bool.or_eq_true,decide_eq_true_eq]
 by_cases h0:c 0<1∨64<c 0
 .rw[Ae h0];exact⟨fun e=>(by cases e),fun e=>by omega⟩
 rw[Af h0]
 by_cases h2:c 2<1∨1000<c 2
 .rw[Ae h2];exact⟨fun e=>(by cases e),fun e=>by omega⟩
 rw[Af h2]
 by_cases h3:c 3<1∨1000<c 3
 .rw[Ae h3];exact⟨fun e=>(by cases e),fun e=>by omega⟩
 rw[Af h3]
 by_cases h4:c 4<1∨4096<c 4
 .rw[Ae h4];exact⟨fun e=>(by cases e),fun e=>by omega⟩
 rw[Af h4]
 by_cases h5:c 5<1∨64<c 5
 .rw[Ae h5];exact⟨fun e=>(by cases e),fun e=>by omega⟩
 rw[Af h5]
 by_cases h6:c 6<1∨65536<c 6
 .rw[Ae h6];exact⟨fun e=>(by cases e),fun e=>by omega⟩
 rw[Af h6]
 exact⟨fun _=>by omega,fun _=>rfl⟩
end Go.E
namespace Go.E
open Go
section
variable {N:Int} {n:Nat} {s:KS} {cls:LM}
theorem Adv (h:KI N n s) (hn:n<=80000) (hS:Same16 N s.cl cls) {c:Nat->Int} (hc:1<=c 0/\c 0<=64) (wr:c 3≠0) (acts:LM) {k:Nat} (hk:k<acts.length) (hL:acts.length<=100) {s':KS} (hs':PE c N s (acts[k]!)=s') :
  ∃ cls',Same16 N s'.cl cls'/\Kv c acts (k:Int) s.ti (GR s) s.tr s.ti s.la s.tr s.cl cls s.m (.inl (((k+1:Nat):Int),s'.ti,GR s',s'.tr,s'.ti,s'.la,s'.tr,s'.cl,cls',s'.m)):=by
 obtain⟨p1,q1,q2⟩:=AeT h Aa c hc wr (acts[k]!)
 obtain⟨n1,n2,n3⟩:=AcO h Aa c hc wr (acts[k]!)
 obtain⟨w1,cls',w2,w3⟩:=AbL h hn hS hc wr (acts[k]!)
 have hlen:=Afi h hn hS c (acts[k]!)
 have hK:=Ys h Aa c (acts[k]!)
 rw[<- AdR,hs'] at w2 w3
 rw[hs'] at q2 hK
 generalize Pt c N s (acts[k]!)=r at *
 have eact:LG c s.cl s.ti s.la s.m s.tr (acts[k]!)=(r.1,r.2.1,r.2.2.1,s'.ti,s'.la,s'.m,s'.tr,s'.cl):=Prod.ext n1 (Prod.ext n2 (Prod.ext n3 q2))
 have hkr:0<=(k:Int)/\(k:Int)<(acts.length:Int):=⟨Aa,Aa⟩
 have e:((k+1:Nat):Int)=(k:Int)+1:=Aa
 refine⟨cls',w2,?_⟩
 unfold Kv
 rw[Ae hkr.2,Int.toNat_natCast]
 refine⟨hkr,p1,_,eact.symm,hkr,w1,_,w3.symm,?_⟩
 dsimp only
 refine⟨by unfold SZ;omega,?_⟩
 rw[Ae (Acf),Ae rfl,Ae rfl]
 refine⟨AaP hK Aa c c cls',?_⟩
 rw[Ae (show Pr c s'.cl s'.ti s'.la s'.m s'.tr c cls' s'.ti (GR s') s'.tr=true from rfl),e]
 exact⟨by unfold GN;omega,rfl⟩
end
theorem Qx {c:Nat->Int} {A:Prop} (h:¬ Ja c=true):if Ja c=true then A else true=decide (Hp 13=13):=by
 rw[Af h,O3 ⟨Ab,Ab⟩]
 rfl
theorem Kq {a b c d:Int}:((decide (a<=b))&&(decide (c<=d)))=true↔(a<=b/\c<=d):=by
 rw[Bool.and_eq_true,decide_eq_true_iff,decide_eq_true_iff]
theorem Yo (c:Nat->Int) (N:Int) (acts:LM):Qg c N acts true:=by
 unfold Qg
 rw[Ae (show Tv=true from rfl)]
 by_cases hl:100<(acts.length:Int)
 .rw[Ae hl]
 rw[Af hl]
 have hR:=Aaq c
 by_cases g0:((decide (1<=c 0))&&(decide (c 0<=64)))=true
 case neg=>
  rw[Af g0]
  exact Qx fun e=>g0 ((Kq).2 (hR.1 e).1)
 rw[Ae g0]
 by_cases g2:((decide (1<=c 2))&&(decide (c 2<=1000)))=true
 case neg=>
  rw[Af g2]
  exact Qx fun e=>g2 ((Kq).2 (hR.1 e).2.1)
 rw[Ae g2]
 by_cases g3:((decide (1<=c 3))&&(decide (c 3<=1000)))=true
 case neg=>
  rw[Af g3]
  exact Qx fun e=>g3 ((Kq).2 (hR.1 e).2.2.1)
 rw[Ae g3]
 by_cases g4:((decide (1<=c 4))&&(decide (c 4<=4096)))=true
 case neg=>
  rw[Af g4]
  exact Qx fun e=>g4 ((Kq).2 (hR.1 e).2.2.2.1)
 rw[Ae g4]
 by_cases g5:((decide (1<=c 5))&&(decide (c 5<=64)))=true
 case neg=>
  rw[Af g5]
  exact Qx fun e=>g5 ((Kq).2 (hR.1 e).2.2.2.2.1)
 rw[Ae g5]
 by_cases g6:((decide (1<=c 6))&&(decide (c 6<=65536)))=true
 case neg=>
  rw[Af g6]
  exact Qx fun e=>g6 ((Kq).2 (hR.1 e).2.2.2.2.2)
 rw[Ae g6]
 have hok:Ja c=true:=hR.2 ⟨(Kq).1 g0,(Kq).1 g2,(Kq).1 g3,(Kq).1 g4,(Kq).1 g5,(Kq).1 g6⟩
 have hc:=(hR.1 hok).1
 have wr:c 3≠0:=by have:=(hR.1 hok).2.2.1;omega
 by_cases hN:((decide (N<1))||(decide (8<N)))=true
 .rw[Ae hN,Ae hok,O3 ⟨Ab,Ab⟩]
  rfl
 rw[Af hN,Ae hok]
 have hN2:1<=N/\N<=8:=by
  simp only[Bool.or_eq_true,decide_eq_true_eq] at hN
  omega
 refine⟨Aa,Aa,Aa,?_⟩
 obtain⟨x,hx,k,s,cls,hk,hK,hS,rfl⟩:=aL (f:=fun(s:Int×Int×(List TT)×LM×Int×Int×LM×NI×LM×TM) (o:(Int×Int×(List TT)×LM×Int×Int×LM×NI×LM×TM) ⊕ ((LM×Int×(List TT)×LM×Int×Int×TM×LM×NI) ⊕ (LM×Int×(List TT)×LM×Int×Int×TM×LM×NI)))=>Kv c acts s.1 s.2.1 s.2.2.1 s.2.2.2.1 s.2.2.2.2.1 s.2.2.2.2.2.1 s.2.2.2.2.2.2.1 s.2.2.2.2.2.2.2.1 s.2.2.2.2.2.2.2.2.1 s.2.2.2.2.2.2.2.2.2 o)
  (fun t=>∃ (k:Nat) (s:KS) (cls:LM),t=((k:Int),s.ti,GR s,s.tr,s.ti,s.la,s.tr,s.cl,cls,s.m)/\k<=acts.length/\KI N (10*k) s/\Same16 N s.cl cls) (fun t=>acts.length-t.1.toNat)
  (fun r=>∃ (k:Nat) (s:KS) (cls:LM),k<=acts.length/\KI N (10*k) s/\Same16 N s.cl cls/\r=.inl (cls,s.ti,GR s,s.tr,s.ti,s.la,s.m,s.tr,s.cl)) (s:=(0,0,[],[],0,0,[],(Gq (fun _=>0) 0 N),(List.replicate N.toNat (fun _=>0)),[])) ⟨0,⟨Gq (fun _=>0) 0 N,0,0,[],[]⟩,_,rfl,Nat.zero_le _,KI.start hN2,Same16.start hN2⟩ (by
   rintro _ ⟨k,s,cls,rfl,hle,hK,hS⟩
   by_cases hlt:k<acts.length
   .left
    obtain⟨cls',h2,h1⟩:=Adv hK Aa hS hc wr acts hlt Aa rfl
    exact⟨_,h1,⟨k+1,_,cls',rfl,hlt,(Ys hK Aa c (acts[k]!)).mono Aa,h2⟩,by dsimp only;omega⟩
   .right
    refine⟨_,?_,k,s,cls,hle,hK,hS,rfl⟩
    dsimp only
    unfold Kv
    rw[Af Aa])
 refine⟨_,hx,?_⟩
 dsimp only
 unfold Nt
 exact⟨AaP hK Aa c c cls,rfl⟩
end Go.E
namespace Go.E
open Go
def AdV (P:Program) (k:Nat->Bool):Nat->List Field->Bool
 | _,[]=>true
 | i,f::l=>Nat.beq f.offset i&&Nat.beq (P.cellsOf f.type) 1&&(match P.underlying f.type with | some .bool=>k i | some (.int .i64)=>!k i | _=>false)&&AdV P k (i+1) l
theorem Aa4 {P:Program} {k:Nat->Bool}:∀ {l:List Field} {o i:Nat} {f:Field},AdV P k o l=true->l[i]? = some f ->
  f.offset=o+i/\P.cellsOf f.type=1/\((P.underlying f.type=some .bool/\k (o+i)=true)∨(P.underlying f.type=some (.int .i64)/\k (o+i)=false))
 | [],o,i,f,_,hf=>by simp at hf
 | g::l,o,0,f,h,hf=>by
  simp only[List.getElem?_cons_zero,Option.some.injEq] at hf
  subst hf
  unfold AdV at h
  simp only[Bool.and_eq_true] at h
  obtain⟨⟨⟨h1,h2⟩,h3⟩,_⟩:=h
  refine⟨by simpa using Nat.eq_of_beq_eq_true h1,Nat.eq_of_beq_eq_true h2,?_⟩
  split at h3
  .rename_i hu;exact .inl ⟨hu,by simpa using h3⟩
  .rename_i hu;exact .inr ⟨hu,by simpa using h3⟩
  .cases h3
 | g::l,o,i+1,f,h,hf=>by
  unfold AdV at h
  simp only[Bool.and_eq_true] at h
  have:=Aa4 (i:=i) h.2 (by simpa using hf)
  rwa[show o+1+i=o+(i+1) by omega] at this
def Abw:Value->Int
 | .int _ n=>n
 | .bool b=>bI b
 | _=>0
section
variable {H:Type} {enc:TypeId×Value->H} {P:Program} {w:World} {base:Nat} {sp:Nat->Bool} {held:Bool}
theorem Adz (N:Nat) (k:Nat->Bool) {r:Reach} {b0:Nat} {t:TypeId} {v:Value} {d:DataW H} {ps:List MemPlace} {fs:Array Field} (hu:P.underlying t=some (.struct fs)) (hk:AdV P k 0 fs.toList=true) (hN:Nat.beq fs.size N=true) (hc:P.cellsOf t=N) (hval:Value.okWide P w r b0 t v) (hd:DataW.Trod enc P w base sp held t v d ps):∃ m,v=AG N (mv k m)/\ps=[]:=by
 obtain⟨fuel,hx⟩:=hd
 obtain⟨cs,rfl⟩:∃ cs,v=.agg cs:=by
  unfold Value.okWide at hval
  split at hval
  .exact⟨_,hval.choose_spec.1⟩
  .exact⟨_,hval.choose_spec.1⟩
  .rename_i h1 h2
   exact absurd hu (h1 _)
 have hNs:=Nat.eq_of_beq_eq_true hN
 obtain⟨xs,n,rfl,he,hl,hn,hf⟩:=DataW.trod_struct hu hx
 have hps:ps=xs.flatMap (·.2):=congrArg Prod.snd he
 have hl':cs.toList.length=N:=hl.trans hc
 have cell:∀ i,i<N->∃ y,xs[i]? = some y/\y.2=[]/\cs.toList[i]? = some (mv k (fun i=>Abw (cs.toList.getD i undef)) i):=by
  intro i hi
  have hfi:fs[i]? = some fs[i]:=Array.getElem?_eq_getElem Aa
  obtain⟨h1,h2,h3⟩:=Aa4 (o:=0) (i:=i) (f:=fs[i]) hk (by simp[show i<fs.size by omega])
  have h4:=hf i _ hfi
  rw[h1,h2,Nat.zero_add] at h4
  replace h4:DataW.trod enc P w base sp held n fs[i].type ((cs.toList.drop i).take 1)=xs[i]?:=h4
  have h5:(cs.toList.drop i).take 1=[cs.toList[i]]:=by
   rw[List.drop_eq_getElem_cons Aa];rfl
  have h6:cs.toList[i]? = some cs.toList[i]:=List.getElem?_eq_getElem Aa
  have h7:cs.toList.getD i undef=cs.toList[i]:=by rw[List.getD_eq_getElem?_getD,h6];rfl
  rw[h5] at h4
  rw[Nat.zero_add] at h3
  have hxi:xs[i]? = some xs[i]:=List.getElem?_eq_getElem Aa
  rw[hxi] at h4
  rcases h3 with ⟨hb,hkb⟩ | ⟨hb,hkb⟩
  .obtain⟨b,e1,e2⟩:=DataW.trod_bool hb h4
   refine⟨xs[i],hxi,by rw[e2],?_⟩
   have e3:cs.toList[i]=.bool b:=by simpa using e1
   rw[h6,ZO hkb,h7,e3]
   simp[Abw,Aga]
  .obtain⟨q,e1,e2,_⟩:=DataW.trod_int hb h4
   refine⟨xs[i],hxi,by rw[e2],?_⟩
   have e3:cs.toList[i]=.int .i64 q:=by simpa using e1
   rw[h6,Yt hkb,h7,e3]
   rfl
 refine⟨fun i=>Abw (cs.toList.getD i undef),?_,?_⟩
 .show Value.agg cs=.agg (CV _ _)
  congr 1
  have:cs.toList=(List.range N).map (mv k fun i=>Abw (cs.toList.getD i undef)):=by
   apply List.ext_getElem?
   intro i
   by_cases hi:i<N
   .obtain⟨y,_,_,h3⟩:=cell i hi
    rw[h3,List.getElem?_map,List.getElem?_range hi];rfl
   .rw[List.getElem?_eq_none Aa,List.getElem?_eq_none (by simp;omega)]
  rw[CV,<- this]
 .rw[hps,List.flatMap_eq_nil_iff]
  intro y hy
  obtain⟨i,hi⟩:=List.getElem?_of_mem hy
  have hlt:i<N:=by
   have:=(List.getElem?_eq_some_iff.1 hi).1
   omega
  obtain⟨y',h1,h2,_⟩:=cell i hlt
  rw[hi] at h1
  cases h1
  exact h2
end
end Go.E
